/- The builder of groups: law0.Group; walked by the abstract machine. -/
import Derived.Test.YtokmkopihhnggaaGreatDoorBl2M
import Derived.Test.YtokmkopihhnggaaGreatDoorFewM
import Derived.Test.YtokmkopihhnggaaGreatDoorLawM
set_option linter.unusedVariables false
set_option maxHeartbeats 4000000
set_option maxRecDepth 100000
set_option linter.unusedSimpArgs false
set_option linter.defProp false
namespace Go.Proofs.YtokmkopihhnggaaGreatDoor
open Go Go.RowKit Go.Proofs.Tryz
theorem JA (n m:Nat):((n:Nat):Int).tmod (m:Int)=((n%m:Nat):Int):=by norm_cast
def F62:=And.intro zS (And.intro Ey (And.intro Ez (And.intro HJ (And.intro HW (And.intro Gd (And.intro H5 (And.intro H6 (And.intro H7 (And.intro IZ (And.intro Ep (And.intro ll (And.intro CF (And.intro EA (And.intro I0 (And.intro tu (And.intro Ht (And.intro BK (And.intro AY (And.intro H8 (And.intro Gp (And.intro Gf (And.intro tv (And.intro Gj (And.intro mN (And.intro CH (And.intro tw (And.intro pr (And.intro CL (And.intro Hy (And.intro H9 (And.intro Ia (And.intro Ib (And.intro Gq (And.intro tf4 (And.intro I3 (And.intro Gr (And.intro EB (And.intro EC (And.intro I1 (And.intro Ev (Fl)))))))))))))))))))))))))))))))))))))))))
theorem F63:type_of%F62:=F62
theorem Nb (n:Nat) (cash:List Nat) (list:List N4) (pools debts:List N3) (hn:n<256) (hcs:∀x∈cash,x<65536) (hl:∀x∈list,x.a<65536/\x.b<65536/\x.c<65536/\x.d<65536) (hpo:∀p∈pools,p.a<65536/\p.b<65536/\p.c<65536) (hdo:∀p∈debts,p.a<65536/\p.b<65536/\p.c<65536)
  (hc0:cash.length<=9223372036854775807) (hl0:list.length<=9223372036854775807) (hp0:pools.length<=9223372036854775807) (hd0:debts.length<=9223372036854775807):aR prog 12 [.one (.lit (.int .u8 n)),.one (.sh 1 cash.length (aA Kl cash)),.one (.sh 4 list.length (aA cN4 list)),.one (.sh 3 pools.length (aA cN3 pools)),.one (.sh 3 debts.length (aA cN3 debts))] (.val (.agg (am (Kj n cash list pools debts)))):=by
 refine aP func12 rfl (by decide) (N:=155) rfl (by simp) (R:=[.cell 10 28]) rfl fun en k0=>?_
 refine awN ?_;simp only [F63,seval];refine awN ?_;simp only [F63,seval];have w1:IntKind.i64.wrap ((n%4:Nat):Int)=((n%4:Nat):Int):=wri _ (by omega);have w2:((n:Nat):Int).tmod 4=((n%4:Nat):Int):=JA n 4;have w3:(1:Int)+((n%4:Nat):Int)=((1+n%4:Nat):Int):=by omega
 refine awN ?_;simp only [F63,seval,w2,w3];repeat refine ob ?_
 generalize hsz:1+n%4=size at *
 refine awN ?_;simp only [F63,seval];refine lX 11 0 49 _ 36 5 (by decide) (by rfl) (by decide) (by simp) (by rfl) ?_;refine aQ [1,2,3,4,10,11,12,13] [49,10,11] ?_;try simp only [ak,F63,seval]
 repeat' first|apply awS|apply awB
 refine aM (fun n st=>∃i s nx,i<=size/\n=size-i/\st=⟨mkT [(1,.val (.one (.sh 1 cash.length (aA Kl cash)))),(2,.val (.one (.sh 4 list.length (aA cN4 list)))),(3,.val (.one (.sh 3 pools.length (aA cN3 pools)))),(4,.val (.one (.sh 3 debts.length (aA cN3 debts)))),(10,.val (.one (.ptr 10 0 0))),(11,.val (.one (.ptr 11 1 0))),(12,one (.int .i64 (size:Int))),(13,one (.int .i64 i))],mkH [(49,⟨s,36,5,i,j3 rd ((List.range i).map (fun j=>(kY cash j,0))) 0⟩),(10,⟨0,28,2,1,[.lit (.slice none 0 0),.lit (.slice none 0 0)]⟩),(11,⟨1,28,2,1,[.own 49 s i 5,.lit (.slice none 0 0)]⟩)],nx,0⟩) (size) ⟨0,_,_,by omega,by omega,rfl⟩ ?_;rintro n0 st ⟨i,s,nx0,hi,rfl,rfl⟩;by_cases hI:(i:Int)<(size:Int)
 ·refine awN ?_;simp only [F63,seval,hI];refine awT ?_;refine awK ?_;simp only [F63,seval];refine awN ?_;simp only [F63,seval];by_cases hc:(i:Int)<(cash.length:Int)
  ·refine awN ?_;simp only [F63,seval,hc];refine awT ?_;have hcl:i<cash.length:=by omega
   have hatc:=aO KL cash i hcl;rw [Nat.mul_one] at hatc;have hci:=hcs _ (List.getElem_mem hcl);refine awN ?_;simp only [F63,seval,hc,hatc,Kl];repeat refine ob ?_
   refine ⟨_,(pl _ hci),(by first|rfl|simp [aU,aD,al,ax,A1.cells,ab au,ab aN,ab b5]),?_⟩;try simp only [ak,F63,seval,ai]
   refine awN ?_;simp only [F63,seval];repeat refine ob ?_
   refine awN ?_;simp only [F63,seval];repeat refine ob ?_
   have hmk:(kY cash i).cash=enc (kG cash[i]):=by unfold kY;simp [Jd,hcl]
   have hrw:j3 rd ((List.range (i+1)).map (fun j=>(kY cash j,0))) 0=j3 rd ((List.range i).map (fun j=>(kY cash j,0))) 0++[.lit (.bool (enc (kG cash[i])).neg),.lit (.string (enc (kG cash[i])).num),.lit (.string (enc (kG cash[i])).den),.lit (.slice none 0 0),.lit (.slice none 0 0)]:=by rw [List.range_succ,List.map_append,td];simp only [List.map_cons,List.map_nil,j3,hmk,rd,List.append_nil]
   refine ⟨_,aI [1,2,3,4,10,11,12,13] [49,10,11],size-(i+1),by omega,i+1,nx0+2,nx0+3,by omega,rfl,?_⟩;simp only [F63,seval,hrw];try rfl
  refine awN ?_;simp only [F63,seval,hc];refine awF ?_;refine awK ?_;simp only [F63,seval];refine awN ?_;simp only [F63,seval];repeat refine ob ?_
  refine awN ?_;simp only [F63,seval];repeat refine ob ?_
  have hmk:(kY cash i).cash=gZ:=by unfold kY;simp [show ¬i<cash.length by omega]
  have hrw:j3 rd ((List.range (i+1)).map (fun j=>(kY cash j,0))) 0=j3 rd ((List.range i).map (fun j=>(kY cash j,0))) 0++[.lit (.bool (gZ).neg),.lit (.string (gZ).num),.lit (.string (gZ).den),.lit (.slice none 0 0),.lit (.slice none 0 0)]:=by rw [List.range_succ,List.map_append,td];simp only [List.map_cons,List.map_nil,j3,hmk,rd,List.append_nil]
  refine ⟨_,aI [1,2,3,4,10,11,12,13] [49,10,11],size-(i+1),by omega,i+1,nx0+2,nx0+3,by omega,rfl,?_⟩;simp only [F63,seval,hrw];try rfl
 refine awN ?_;simp only [F63,seval,hI];refine awF ?_;refine awQ ?_;simp only [F63,seval];refine awN ?_;simp only [F63,seval];obtain rfl:size=i:=by omega
 refine aQ [3,4,10,11,12,51,52,53] [49,10,11] ?_;try simp only [ak,F63,seval]
 rw [Mq (m:=(List.range size).map (fun j=>(kY cash j,nx0+j))) 0 (by rw [List.map_map,List.map_map];rfl)];refine cm (M5 103 38 36 (by decide) 49 [(10,⟨0,28,2,1,[.lit (.slice none 0 0),.lit (.slice none 0 0)]⟩),(11,⟨1,28,2,1,[.own 49 s size 5,.lit (.slice none 0 0)]⟩)] (by simp) (by decide) size nx0 ((List.range size).map (fun j=>(kY cash j,nx0+j))) (fun j p hj=>?_)) ?_
 ·rw [List.getElem?_map] at hj;obtain ⟨i,hi,rfl⟩:=Option.map_eq_some_iff.1 hj;obtain rfl:j=i:=by obtain ⟨h1,h2⟩:=List.getElem?_eq_some_iff.1 hi;simpa using h2
  exact ⟨rfl,rfl⟩
 repeat' first|apply awS|apply awB
 refine aM (fun n st=>∃k ps s nx,k<=list.length/\n=list.length-k/\(list.drop k).foldl (gn size) (ps.map (·.1))=list.foldl (gn size) ((List.range size).map (kY cash))/\ps.length=size/\(∀e∈ps.map (·.1),okC e)/\st=⟨mkT [(3,.val (.one (.sh 3 pools.length (aA cN3 pools)))),(4,.val (.one (.sh 3 debts.length (aA cN3 debts)))),(10,.val (.one (.ptr 10 0 0))),(11,.val (.one (.ptr 11 1 0))),(12,one (.int .i64 (size:Int))),(51,.val (.one (.sh 4 list.length (aA cN4 list)))),(52,one (.int .i64 list.length)),(53,one (.int .i64 k))],bZ (tbl 103 38 ps) [(49,⟨s,36,5,size,j3 (gm 103) ps 0⟩),(10,⟨0,28,2,1,[.lit (.slice none 0 0),.lit (.slice none 0 0)]⟩),(11,⟨1,28,2,1,[.own 49 s size 5,.lit (.slice none 0 0)]⟩)],nx,0⟩) (list.length) ⟨0,(List.range size).map (fun j=>(kY cash j,nx0+j)),_,_,by omega,by omega,by rw [List.drop_zero,List.map_map];rfl,by simp,by intro e he;simp only [List.map_map,List.mem_map] at he;obtain ⟨j,_,rfl⟩:=he;exact ⟨by simp [kY],rfl⟩,rfl⟩ ?_;rintro n1 st ⟨k,ps,s,nx1,hk,rfl,hL1,hpl,hok,rfl⟩;by_cases hlt1:(k:Int)<(list.length:Int)
 ·refine awN ?_;simp only [F63,seval,hlt1];refine awT ?_;refine awK ?_;simp only [F63,seval];have hltn:k<list.length:=by omega
  have hx3:=hl _ (List.getElem_mem hltn);have hatl:=aO Km list k hltn;rw [List.drop_eq_getElem_cons hltn,List.foldl_cons] at hL1;generalize list[k]=x at *
  obtain ⟨j,hj⟩:∃j,j=x.a%size:=⟨_,rfl⟩;have hjl:j<ps.length:=by rw [hpl,hj];exact Nat.mod_lt _ (by omega)
  obtain ⟨p,hp⟩:∃p,ps[j]? =some p:=⟨_,List.getElem?_eq_getElem hjl⟩;refine awN ?_;simp only [F63,seval,hlt1,hatl,cN4];repeat refine ob ?_
  have w4:=JA x.a size;refine awN ?_;simp only [F63,seval,w4];repeat refine ob ?_
  by_cases h6:(6:Int)<=(p.1.claims.length:Int)
  ·rw [←hj];obtain ⟨b,hb⟩:∃b,b=1000*(j+1):=⟨_,rfl⟩;have hgd:(ps.map (·.1)).getD j gr=p.1:=by rw [List.getD_eq_getElem?_getD,List.getElem?_map,hp];rfl
   have hown:gm 103 j p= .own (b+103) p.2 p.1.claims.length 5:=by simp [gm,hb]
   have hget:=zf (gm 103) ps j p hp;rw [hown] at hget;have hx1:(b+103=b+102)=False:=by simp
   have hx2:(b+102=b+103)=False:=by simp
   have hrl:=j4 (gm 103) ps 0;have htb:tbl 103 38 ps (b+103)=some ⟨p.2,38,5,p.1.claims.length,aA b0 p.1.claims⟩:=by rw [hb];exact kK (by decide) hp
   have F103:∀c,c<1000->((b+103=c)=False/\(c=b+103)=False):=fun c hc=>⟨by simp;omega,by simp;omega⟩
   have F102:∀c,c<1000->((b+102=c)=False/\(c=b+102)=False):=fun c hc=>⟨by simp;omega,by simp;omega⟩
   refine awN ?_;simp only [F63,seval,h6,hget,F103,htb];repeat refine ob ?_
   refine awT ?_;refine awQ ?_;simp only [F63,seval];refine awN ?_;simp only [F63,seval];repeat refine ob ?_
   have hsame:gn size (ps.map (·.1)) x=ps.map (·.1):=by unfold gn;rw [←hj,hgd,if_pos (by omega)]
   rw [hsame] at hL1;refine ⟨_,(fP (tbl 103 38 ps) [3,4,10,11,12,51,52,53] [49,10,11] (by intro y B h;obtain ⟨q,r,rfl,h2,h3⟩:=hZ h;right;simpa [aB,show 1000*(q+1)+103≠49 by omega,show 1000*(q+1)+103≠16 by omega,show 1000*(q+1)+103≠11 by omega,show 1000*(q+1)+103≠10 by omega] using h)).trans (u5 0),list.length-(k+1),by omega,k+1,ps,s,?nq23,by omega,rfl,hL1,hpl,hok,?sq23⟩;case sq23=>(simp only [F63,seval];rfl)
  rw [←hj];obtain ⟨b,hb⟩:∃b,b=1000*(j+1):=⟨_,rfl⟩;have hgd:(ps.map (·.1)).getD j gr=p.1:=by rw [List.getD_eq_getElem?_getD,List.getElem?_map,hp];rfl
  have hown:gm 103 j p= .own (b+103) p.2 p.1.claims.length 5:=by simp [gm,hb]
  have hget:=zf (gm 103) ps j p hp;rw [hown] at hget;have hx1:(b+103=b+102)=False:=by simp
  have hx2:(b+102=b+103)=False:=by simp
  have hrl:=j4 (gm 103) ps 0;have htb:tbl 103 38 ps (b+103)=some ⟨p.2,38,5,p.1.claims.length,aA b0 p.1.claims⟩:=by rw [hb];exact kK (by decide) hp
  have F103:∀c,c<1000->((b+103=c)=False/\(c=b+103)=False):=fun c hc=>⟨by simp;omega,by simp;omega⟩
  have F102:∀c,c<1000->((b+102=c)=False/\(c=b+102)=False):=fun c hc=>⟨by simp;omega,by simp;omega⟩
  refine awN ?_;simp only [F63,seval,h6,hget,F103,htb];repeat refine ob ?_
  refine awF ?_;refine awK ?_;simp only [F63,seval];have w5:((x.b:Nat):Int).tmod ((size:Int)+1)=((x.b%(size+1):Nat):Int):=JA x.b (size+1);refine awN ?_;simp only [F63,seval,w5];repeat refine ob ?_
  by_cases hh1:((x.b%(size+1):Nat):Int)=(j:Int)
  ·refine awR [] [0,0,0,0,160,160,160,0] ?_;simp only [F63,seval,hh1];refine awT ?_;refine awN ?_;simp only [F63,seval];have w6:((x.c:Nat):Int).tmod 3=((x.c%3:Nat):Int):=JA x.c 3;have w7:IntKind.i64.wrap ((x.c%3:Nat):Int)=((x.c%3:Nat):Int):=wri _ (by omega);have hhold:sk size (x.a%size) x.b= -1:=by unfold sk;rw [if_pos (by rw [←hj];omega)]
   refine C5 b ?_;dsimp only;refine awD (scq [1] (scT 2 14 (.two 1 16 (scq [32,35,36,38,41,43,44] .nil) (scq [35] (.two 1 18 (scq [36,38,41,43,44] .nil) (.two 1 19 (scq [38,41,43,44] .nil) (scq [3,41,43,44] .nil))))))) [0,0,0,0,0,0,0,0,0,0,0,0,0,0,0,0,0,0,0,0,0,0,0] ?_;simp only [F63,seval,hget,w6];repeat refine ob ?_
   refine ⟨?_,?_⟩
   ·refine ⟨_,(pl x.d hx3.2.2.2),(by first|rfl|simp [aU,aD,al,ax,A1.cells,ab au,ab aN,ab b5]),?_⟩;try simp only [ak,F63,seval,F103,F102,hx1,htb,ai]
    repeat refine ob ?_
    refine awN ?_;simp only [F63,seval];repeat refine ob ?_
    have hadd:gn size (ps.map (·.1)) x=(ps.set j ({p.1 with claims:=p.1.claims++[cQ size x]},nx1+2)).map (·.1):=by rw [List.map_set];unfold gn;rw [←hj,hgd,if_neg (by omega)]
    rw [hadd] at hL1;have hok2:=jY size (ps.map (·.1)) x hok;rw [hadd] at hok2;have hsub:∀q r,(ps.set j ({p.1 with claims:=p.1.claims++[cQ size x]},nx1+2))[q]? =some r->r=({p.1 with claims:=p.1.claims++[cQ size x]},nx1+2)/\q=j∨q≠j/\ps[q]? =some r:=by
     intro q r hq;by_cases hqj:q=j
     ·subst hqj;rw [List.getElem?_set_self hjl] at hq;exact .inl ⟨(Option.some.inj hq).symm,rfl⟩
     rw [List.getElem?_set_ne (fun h=>hqj h.symm)] at hq;exact .inr ⟨hqj,hq⟩
    have hrow:=j5 (gm 103) (gm 103) ps j p ({p.1 with claims:=p.1.claims++[cQ size x]},nx1+2) hp rfl (fun _ _ _ _=>rfl);have hfo:gm 103 j ({p.1 with claims:=p.1.claims++[cQ size x]},nx1+2)= .own (b+103) (nx1+2) (p.1.claims.length+1) 5:=by simp [gm,hb]
    rw [hfo,←mb _ _ _ (by rw [j4];omega)] at hrow;refine ⟨_,(fP (tbl 103 38 (ps.set j ({p.1 with claims:=p.1.claims++[cQ size x]},nx1+2))) [3,4,10,11,12,51,52,53] [49,10,11] (ly (fun q r hq=>?tq30) _)).trans (u5 0),list.length-(k+1),by omega,k+1,ps.set j ({p.1 with claims:=p.1.claims++[cQ size x]},nx1+2),s,nx1+3,by omega,rfl,hL1,by rw [List.length_set];exact hpl,hok2,?sq30⟩;case sq30=>(simp only [F63,seval,hrow];rfl)
    case tq30=>
     rcases hsub q r hq with ⟨rfl,rfl⟩|⟨h1,h2⟩
     ·simp only [←hb,aB,F103,seval,reduceIte,List.length_append,List.length_cons,List.length_nil,Nat.zero_add,a7,b0,cQ,hhold,Jd]
     have g1:1000*(q+1)+103≠b+103:=by omega
     have g2:1000*(q+1)+103≠b+102:=by omega
     simp only [aB,g1,g2,if_false,show 1000*(q+1)+103≠49 by omega,show 1000*(q+1)+103≠16 by omega,show 1000*(q+1)+103≠11 by omega,show 1000*(q+1)+103≠10 by omega];exact kK (by decide) h2
   refine ⟨_,(pl x.d hx3.2.2.2),(by first|rfl|simp [aU,aD,al,ax,A1.cells,ab au,ab aN,ab b5]),?_⟩;try simp only [ak,F63,seval,F103,F102,hx1,htb,ai]
   refine ⟨?_,?_⟩
   ·repeat refine ob ?_
    refine awN ?_;simp only [F63,seval];repeat refine ob ?_
    have hadd:gn size (ps.map (·.1)) x=(ps.set j ({p.1 with claims:=p.1.claims++[cQ size x]},nx1+2)).map (·.1):=by rw [List.map_set];unfold gn;rw [←hj,hgd,if_neg (by omega)]
    rw [hadd] at hL1;have hok2:=jY size (ps.map (·.1)) x hok;rw [hadd] at hok2;have hsub:∀q r,(ps.set j ({p.1 with claims:=p.1.claims++[cQ size x]},nx1+2))[q]? =some r->r=({p.1 with claims:=p.1.claims++[cQ size x]},nx1+2)/\q=j∨q≠j/\ps[q]? =some r:=by
     intro q r hq;by_cases hqj:q=j
     ·subst hqj;rw [List.getElem?_set_self hjl] at hq;exact .inl ⟨(Option.some.inj hq).symm,rfl⟩
     rw [List.getElem?_set_ne (fun h=>hqj h.symm)] at hq;exact .inr ⟨hqj,hq⟩
    have hrow:=j5 (gm 103) (gm 103) ps j p ({p.1 with claims:=p.1.claims++[cQ size x]},nx1+2) hp rfl (fun _ _ _ _=>rfl);have hfo:gm 103 j ({p.1 with claims:=p.1.claims++[cQ size x]},nx1+2)= .own (b+103) (nx1+2) (p.1.claims.length+1) 5:=by simp [gm,hb]
    rw [hfo,←mb _ _ _ (by rw [j4];omega)] at hrow;refine ⟨_,(fP (tbl 103 38 (ps.set j ({p.1 with claims:=p.1.claims++[cQ size x]},nx1+2))) [3,4,10,11,12,51,52,53] [49,10,11] (ly (fun q r hq=>?tq32) _)).trans (u5 0),list.length-(k+1),by omega,k+1,ps.set j ({p.1 with claims:=p.1.claims++[cQ size x]},nx1+2),s,nx1+3,by omega,rfl,hL1,by rw [List.length_set];exact hpl,hok2,?sq32⟩;case sq32=>(simp only [F63,seval,hrow];rfl)
    case tq32=>
     rcases hsub q r hq with ⟨rfl,rfl⟩|⟨h1,h2⟩
     ·simp only [←hb,aB,F103,seval,reduceIte,List.length_append,List.length_cons,List.length_nil,Nat.zero_add,a7,b0,cQ,hhold,Jd]
     have g1:1000*(q+1)+103≠b+103:=by omega
     have g2:1000*(q+1)+103≠b+102:=by omega
     simp only [aB,g1,g2,if_false,show 1000*(q+1)+103≠49 by omega,show 1000*(q+1)+103≠16 by omega,show 1000*(q+1)+103≠11 by omega,show 1000*(q+1)+103≠10 by omega];exact kK (by decide) h2
   refine ⟨?_,?_⟩
   ·repeat refine ob ?_
    refine awN ?_;simp only [F63,seval];repeat refine ob ?_
    have hadd:gn size (ps.map (·.1)) x=(ps.set j ({p.1 with claims:=p.1.claims++[cQ size x]},nx1+2)).map (·.1):=by rw [List.map_set];unfold gn;rw [←hj,hgd,if_neg (by omega)]
    rw [hadd] at hL1;have hok2:=jY size (ps.map (·.1)) x hok;rw [hadd] at hok2;have hsub:∀q r,(ps.set j ({p.1 with claims:=p.1.claims++[cQ size x]},nx1+2))[q]? =some r->r=({p.1 with claims:=p.1.claims++[cQ size x]},nx1+2)/\q=j∨q≠j/\ps[q]? =some r:=by
     intro q r hq;by_cases hqj:q=j
     ·subst hqj;rw [List.getElem?_set_self hjl] at hq;exact .inl ⟨(Option.some.inj hq).symm,rfl⟩
     rw [List.getElem?_set_ne (fun h=>hqj h.symm)] at hq;exact .inr ⟨hqj,hq⟩
    have hrow:=j5 (gm 103) (gm 103) ps j p ({p.1 with claims:=p.1.claims++[cQ size x]},nx1+2) hp rfl (fun _ _ _ _=>rfl);have hfo:gm 103 j ({p.1 with claims:=p.1.claims++[cQ size x]},nx1+2)= .own (b+103) (nx1+2) (p.1.claims.length+1) 5:=by simp [gm,hb]
    rw [hfo,←mb _ _ _ (by rw [j4];omega)] at hrow;refine ⟨_,(fP (tbl 103 38 (ps.set j ({p.1 with claims:=p.1.claims++[cQ size x]},nx1+2))) [3,4,10,11,12,51,52,53] [49,10,11] (ly (fun q r hq=>?tq34) _)).trans (u5 0),list.length-(k+1),by omega,k+1,ps.set j ({p.1 with claims:=p.1.claims++[cQ size x]},nx1+2),s,nx1+3,by omega,rfl,hL1,by rw [List.length_set];exact hpl,hok2,?sq34⟩;case sq34=>(simp only [F63,seval,hrow];rfl)
    case tq34=>
     rcases hsub q r hq with ⟨rfl,rfl⟩|⟨h1,h2⟩
     ·simp only [←hb,aB,F103,seval,reduceIte,List.length_append,List.length_cons,List.length_nil,Nat.zero_add,a7,b0,cQ,hhold,Jd]
     have g1:1000*(q+1)+103≠b+103:=by omega
     have g2:1000*(q+1)+103≠b+102:=by omega
     simp only [aB,g1,g2,if_false,show 1000*(q+1)+103≠49 by omega,show 1000*(q+1)+103≠16 by omega,show 1000*(q+1)+103≠11 by omega,show 1000*(q+1)+103≠10 by omega];exact kK (by decide) h2
   repeat refine ob ?_
   refine awN ?_;simp only [F63,seval];repeat refine ob ?_
   have hadd:gn size (ps.map (·.1)) x=(ps.set j ({p.1 with claims:=p.1.claims++[cQ size x]},nx1+2)).map (·.1):=by rw [List.map_set];unfold gn;rw [←hj,hgd,if_neg (by omega)]
   rw [hadd] at hL1;have hok2:=jY size (ps.map (·.1)) x hok;rw [hadd] at hok2;have hsub:∀q r,(ps.set j ({p.1 with claims:=p.1.claims++[cQ size x]},nx1+2))[q]? =some r->r=({p.1 with claims:=p.1.claims++[cQ size x]},nx1+2)/\q=j∨q≠j/\ps[q]? =some r:=by
    intro q r hq;by_cases hqj:q=j
    ·subst hqj;rw [List.getElem?_set_self hjl] at hq;exact .inl ⟨(Option.some.inj hq).symm,rfl⟩
    rw [List.getElem?_set_ne (fun h=>hqj h.symm)] at hq;exact .inr ⟨hqj,hq⟩
   have hrow:=j5 (gm 103) (gm 103) ps j p ({p.1 with claims:=p.1.claims++[cQ size x]},nx1+2) hp rfl (fun _ _ _ _=>rfl);have hfo:gm 103 j ({p.1 with claims:=p.1.claims++[cQ size x]},nx1+2)= .own (b+103) (nx1+2) (p.1.claims.length+1) 5:=by simp [gm,hb]
   rw [hfo,←mb _ _ _ (by rw [j4];omega)] at hrow;refine ⟨_,(fP (tbl 103 38 (ps.set j ({p.1 with claims:=p.1.claims++[cQ size x]},nx1+2))) [3,4,10,11,12,51,52,53] [49,10,11] (ly (fun q r hq=>?tq36) _)).trans (u5 0),list.length-(k+1),by omega,k+1,ps.set j ({p.1 with claims:=p.1.claims++[cQ size x]},nx1+2),s,nx1+3,by omega,rfl,hL1,by rw [List.length_set];exact hpl,hok2,?sq36⟩;case sq36=>(simp only [F63,seval,hrow];rfl)
   case tq36=>
    rcases hsub q r hq with ⟨rfl,rfl⟩|⟨h1,h2⟩
    ·simp only [←hb,aB,F103,seval,reduceIte,List.length_append,List.length_cons,List.length_nil,Nat.zero_add,a7,b0,cQ,hhold,Jd]
    have g1:1000*(q+1)+103≠b+103:=by omega
    have g2:1000*(q+1)+103≠b+102:=by omega
    simp only [aB,g1,g2,if_false,show 1000*(q+1)+103≠49 by omega,show 1000*(q+1)+103≠16 by omega,show 1000*(q+1)+103≠11 by omega,show 1000*(q+1)+103≠10 by omega];exact kK (by decide) h2
  by_cases hh2:(size:Int)<=((x.b%(size+1):Nat):Int)
  ·refine awR [] [0,0,0,0,160,160,160,0] ?_;simp only [F63,seval,hh1,hh2];refine awT ?_;refine awN ?_;simp only [F63,seval];have w6:((x.c:Nat):Int).tmod 3=((x.c%3:Nat):Int):=JA x.c 3;have w7:IntKind.i64.wrap ((x.c%3:Nat):Int)=((x.c%3:Nat):Int):=wri _ (by omega);have hhold:sk size (x.a%size) x.b= -1:=by unfold sk;rw [if_pos (by rw [←hj];omega)]
   refine C5 b ?_;dsimp only;refine awD (scq [1] (scT 2 14 (.two 1 16 (scq [32,35,36,38,41,43,44] .nil) (scq [35] (.two 1 18 (scq [36,38,41,43,44] .nil) (.two 1 19 (scq [38,41,43,44] .nil) (scq [3,41,43,44] .nil))))))) [0,0,0,0,0,0,0,0,0,0,0,0,0,0,0,0,0,0,0,0,0,0,0] ?_;simp only [F63,seval,hget,w6];repeat refine ob ?_
   refine ⟨?_,?_⟩
   ·refine ⟨_,(pl x.d hx3.2.2.2),(by first|rfl|simp [aU,aD,al,ax,A1.cells,ab au,ab aN,ab b5]),?_⟩;try simp only [ak,F63,seval,F103,F102,hx1,htb,ai]
    repeat refine ob ?_
    refine awN ?_;simp only [F63,seval];repeat refine ob ?_
    have hadd:gn size (ps.map (·.1)) x=(ps.set j ({p.1 with claims:=p.1.claims++[cQ size x]},nx1+2)).map (·.1):=by rw [List.map_set];unfold gn;rw [←hj,hgd,if_neg (by omega)]
    rw [hadd] at hL1;have hok2:=jY size (ps.map (·.1)) x hok;rw [hadd] at hok2;have hsub:∀q r,(ps.set j ({p.1 with claims:=p.1.claims++[cQ size x]},nx1+2))[q]? =some r->r=({p.1 with claims:=p.1.claims++[cQ size x]},nx1+2)/\q=j∨q≠j/\ps[q]? =some r:=by
     intro q r hq;by_cases hqj:q=j
     ·subst hqj;rw [List.getElem?_set_self hjl] at hq;exact .inl ⟨(Option.some.inj hq).symm,rfl⟩
     rw [List.getElem?_set_ne (fun h=>hqj h.symm)] at hq;exact .inr ⟨hqj,hq⟩
    have hrow:=j5 (gm 103) (gm 103) ps j p ({p.1 with claims:=p.1.claims++[cQ size x]},nx1+2) hp rfl (fun _ _ _ _=>rfl);have hfo:gm 103 j ({p.1 with claims:=p.1.claims++[cQ size x]},nx1+2)= .own (b+103) (nx1+2) (p.1.claims.length+1) 5:=by simp [gm,hb]
    rw [hfo,←mb _ _ _ (by rw [j4];omega)] at hrow;refine ⟨_,(fP (tbl 103 38 (ps.set j ({p.1 with claims:=p.1.claims++[cQ size x]},nx1+2))) [3,4,10,11,12,51,52,53] [49,10,11] (ly (fun q r hq=>?tq41) _)).trans (u5 0),list.length-(k+1),by omega,k+1,ps.set j ({p.1 with claims:=p.1.claims++[cQ size x]},nx1+2),s,nx1+3,by omega,rfl,hL1,by rw [List.length_set];exact hpl,hok2,?sq41⟩;case sq41=>(simp only [F63,seval,hrow];rfl)
    case tq41=>
     rcases hsub q r hq with ⟨rfl,rfl⟩|⟨h1,h2⟩
     ·simp only [←hb,aB,F103,seval,reduceIte,List.length_append,List.length_cons,List.length_nil,Nat.zero_add,a7,b0,cQ,hhold,Jd]
     have g1:1000*(q+1)+103≠b+103:=by omega
     have g2:1000*(q+1)+103≠b+102:=by omega
     simp only [aB,g1,g2,if_false,show 1000*(q+1)+103≠49 by omega,show 1000*(q+1)+103≠16 by omega,show 1000*(q+1)+103≠11 by omega,show 1000*(q+1)+103≠10 by omega];exact kK (by decide) h2
   refine ⟨_,(pl x.d hx3.2.2.2),(by first|rfl|simp [aU,aD,al,ax,A1.cells,ab au,ab aN,ab b5]),?_⟩;try simp only [ak,F63,seval,F103,F102,hx1,htb,ai]
   refine ⟨?_,?_⟩
   ·repeat refine ob ?_
    refine awN ?_;simp only [F63,seval];repeat refine ob ?_
    have hadd:gn size (ps.map (·.1)) x=(ps.set j ({p.1 with claims:=p.1.claims++[cQ size x]},nx1+2)).map (·.1):=by rw [List.map_set];unfold gn;rw [←hj,hgd,if_neg (by omega)]
    rw [hadd] at hL1;have hok2:=jY size (ps.map (·.1)) x hok;rw [hadd] at hok2;have hsub:∀q r,(ps.set j ({p.1 with claims:=p.1.claims++[cQ size x]},nx1+2))[q]? =some r->r=({p.1 with claims:=p.1.claims++[cQ size x]},nx1+2)/\q=j∨q≠j/\ps[q]? =some r:=by
     intro q r hq;by_cases hqj:q=j
     ·subst hqj;rw [List.getElem?_set_self hjl] at hq;exact .inl ⟨(Option.some.inj hq).symm,rfl⟩
     rw [List.getElem?_set_ne (fun h=>hqj h.symm)] at hq;exact .inr ⟨hqj,hq⟩
    have hrow:=j5 (gm 103) (gm 103) ps j p ({p.1 with claims:=p.1.claims++[cQ size x]},nx1+2) hp rfl (fun _ _ _ _=>rfl);have hfo:gm 103 j ({p.1 with claims:=p.1.claims++[cQ size x]},nx1+2)= .own (b+103) (nx1+2) (p.1.claims.length+1) 5:=by simp [gm,hb]
    rw [hfo,←mb _ _ _ (by rw [j4];omega)] at hrow;refine ⟨_,(fP (tbl 103 38 (ps.set j ({p.1 with claims:=p.1.claims++[cQ size x]},nx1+2))) [3,4,10,11,12,51,52,53] [49,10,11] (ly (fun q r hq=>?tq43) _)).trans (u5 0),list.length-(k+1),by omega,k+1,ps.set j ({p.1 with claims:=p.1.claims++[cQ size x]},nx1+2),s,nx1+3,by omega,rfl,hL1,by rw [List.length_set];exact hpl,hok2,?sq43⟩;case sq43=>(simp only [F63,seval,hrow];rfl)
    case tq43=>
     rcases hsub q r hq with ⟨rfl,rfl⟩|⟨h1,h2⟩
     ·simp only [←hb,aB,F103,seval,reduceIte,List.length_append,List.length_cons,List.length_nil,Nat.zero_add,a7,b0,cQ,hhold,Jd]
     have g1:1000*(q+1)+103≠b+103:=by omega
     have g2:1000*(q+1)+103≠b+102:=by omega
     simp only [aB,g1,g2,if_false,show 1000*(q+1)+103≠49 by omega,show 1000*(q+1)+103≠16 by omega,show 1000*(q+1)+103≠11 by omega,show 1000*(q+1)+103≠10 by omega];exact kK (by decide) h2
   refine ⟨?_,?_⟩
   ·repeat refine ob ?_
    refine awN ?_;simp only [F63,seval];repeat refine ob ?_
    have hadd:gn size (ps.map (·.1)) x=(ps.set j ({p.1 with claims:=p.1.claims++[cQ size x]},nx1+2)).map (·.1):=by rw [List.map_set];unfold gn;rw [←hj,hgd,if_neg (by omega)]
    rw [hadd] at hL1;have hok2:=jY size (ps.map (·.1)) x hok;rw [hadd] at hok2;have hsub:∀q r,(ps.set j ({p.1 with claims:=p.1.claims++[cQ size x]},nx1+2))[q]? =some r->r=({p.1 with claims:=p.1.claims++[cQ size x]},nx1+2)/\q=j∨q≠j/\ps[q]? =some r:=by
     intro q r hq;by_cases hqj:q=j
     ·subst hqj;rw [List.getElem?_set_self hjl] at hq;exact .inl ⟨(Option.some.inj hq).symm,rfl⟩
     rw [List.getElem?_set_ne (fun h=>hqj h.symm)] at hq;exact .inr ⟨hqj,hq⟩
    have hrow:=j5 (gm 103) (gm 103) ps j p ({p.1 with claims:=p.1.claims++[cQ size x]},nx1+2) hp rfl (fun _ _ _ _=>rfl);have hfo:gm 103 j ({p.1 with claims:=p.1.claims++[cQ size x]},nx1+2)= .own (b+103) (nx1+2) (p.1.claims.length+1) 5:=by simp [gm,hb]
    rw [hfo,←mb _ _ _ (by rw [j4];omega)] at hrow;refine ⟨_,(fP (tbl 103 38 (ps.set j ({p.1 with claims:=p.1.claims++[cQ size x]},nx1+2))) [3,4,10,11,12,51,52,53] [49,10,11] (ly (fun q r hq=>?tq45) _)).trans (u5 0),list.length-(k+1),by omega,k+1,ps.set j ({p.1 with claims:=p.1.claims++[cQ size x]},nx1+2),s,nx1+3,by omega,rfl,hL1,by rw [List.length_set];exact hpl,hok2,?sq45⟩;case sq45=>(simp only [F63,seval,hrow];rfl)
    case tq45=>
     rcases hsub q r hq with ⟨rfl,rfl⟩|⟨h1,h2⟩
     ·simp only [←hb,aB,F103,seval,reduceIte,List.length_append,List.length_cons,List.length_nil,Nat.zero_add,a7,b0,cQ,hhold,Jd]
     have g1:1000*(q+1)+103≠b+103:=by omega
     have g2:1000*(q+1)+103≠b+102:=by omega
     simp only [aB,g1,g2,if_false,show 1000*(q+1)+103≠49 by omega,show 1000*(q+1)+103≠16 by omega,show 1000*(q+1)+103≠11 by omega,show 1000*(q+1)+103≠10 by omega];exact kK (by decide) h2
   repeat refine ob ?_
   refine awN ?_;simp only [F63,seval];repeat refine ob ?_
   have hadd:gn size (ps.map (·.1)) x=(ps.set j ({p.1 with claims:=p.1.claims++[cQ size x]},nx1+2)).map (·.1):=by rw [List.map_set];unfold gn;rw [←hj,hgd,if_neg (by omega)]
   rw [hadd] at hL1;have hok2:=jY size (ps.map (·.1)) x hok;rw [hadd] at hok2;have hsub:∀q r,(ps.set j ({p.1 with claims:=p.1.claims++[cQ size x]},nx1+2))[q]? =some r->r=({p.1 with claims:=p.1.claims++[cQ size x]},nx1+2)/\q=j∨q≠j/\ps[q]? =some r:=by
    intro q r hq;by_cases hqj:q=j
    ·subst hqj;rw [List.getElem?_set_self hjl] at hq;exact .inl ⟨(Option.some.inj hq).symm,rfl⟩
    rw [List.getElem?_set_ne (fun h=>hqj h.symm)] at hq;exact .inr ⟨hqj,hq⟩
   have hrow:=j5 (gm 103) (gm 103) ps j p ({p.1 with claims:=p.1.claims++[cQ size x]},nx1+2) hp rfl (fun _ _ _ _=>rfl);have hfo:gm 103 j ({p.1 with claims:=p.1.claims++[cQ size x]},nx1+2)= .own (b+103) (nx1+2) (p.1.claims.length+1) 5:=by simp [gm,hb]
   rw [hfo,←mb _ _ _ (by rw [j4];omega)] at hrow;refine ⟨_,(fP (tbl 103 38 (ps.set j ({p.1 with claims:=p.1.claims++[cQ size x]},nx1+2))) [3,4,10,11,12,51,52,53] [49,10,11] (ly (fun q r hq=>?tq47) _)).trans (u5 0),list.length-(k+1),by omega,k+1,ps.set j ({p.1 with claims:=p.1.claims++[cQ size x]},nx1+2),s,nx1+3,by omega,rfl,hL1,by rw [List.length_set];exact hpl,hok2,?sq47⟩;case sq47=>(simp only [F63,seval,hrow];rfl)
   case tq47=>
    rcases hsub q r hq with ⟨rfl,rfl⟩|⟨h1,h2⟩
    ·simp only [←hb,aB,F103,seval,reduceIte,List.length_append,List.length_cons,List.length_nil,Nat.zero_add,a7,b0,cQ,hhold,Jd]
    have g1:1000*(q+1)+103≠b+103:=by omega
    have g2:1000*(q+1)+103≠b+102:=by omega
    simp only [aB,g1,g2,if_false,show 1000*(q+1)+103≠49 by omega,show 1000*(q+1)+103≠16 by omega,show 1000*(q+1)+103≠11 by omega,show 1000*(q+1)+103≠10 by omega];exact kK (by decide) h2
  refine awR [] [0,0,0,0,160,160,160,0] ?_;simp only [F63,seval,hh1,hh2];refine awF ?_;refine awK ?_;simp only [F63,seval];have w6:((x.c:Nat):Int).tmod 3=((x.c%3:Nat):Int):=JA x.c 3;have w7:IntKind.i64.wrap ((x.c%3:Nat):Int)=((x.c%3:Nat):Int):=wri _ (by omega);have hhold:sk size (x.a%size) x.b=((x.b%(size+1):Nat):Int):=by unfold sk;rw [if_neg (by rw [←hj];omega)]
  refine C5 b ?_;dsimp only;refine awD (scq [1] (scT 2 14 (.two 1 16 (scq [32,35,36,38,41,43,44] .nil) (scq [35] (.two 1 18 (scq [36,38,41,43,44] .nil) (.two 1 19 (scq [38,41,43,44] .nil) (scq [3,41,43,44] .nil))))))) [0,0,0,0,0,0,0,0,0,0,0,0,0,0,0,0,0,0,0,0,0,0,0] ?_;simp only [F63,seval,hget,w6];repeat refine ob ?_
  refine ⟨?_,?_⟩
  ·refine ⟨_,(pl x.d hx3.2.2.2),(by first|rfl|simp [aU,aD,al,ax,A1.cells,ab au,ab aN,ab b5]),?_⟩;try simp only [ak,F63,seval,F103,F102,hx1,htb,ai]
   repeat refine ob ?_
   refine awN ?_;simp only [F63,seval];repeat refine ob ?_
   have hadd:gn size (ps.map (·.1)) x=(ps.set j ({p.1 with claims:=p.1.claims++[cQ size x]},nx1+2)).map (·.1):=by rw [List.map_set];unfold gn;rw [←hj,hgd,if_neg (by omega)]
   rw [hadd] at hL1;have hok2:=jY size (ps.map (·.1)) x hok;rw [hadd] at hok2;have hsub:∀q r,(ps.set j ({p.1 with claims:=p.1.claims++[cQ size x]},nx1+2))[q]? =some r->r=({p.1 with claims:=p.1.claims++[cQ size x]},nx1+2)/\q=j∨q≠j/\ps[q]? =some r:=by
    intro q r hq;by_cases hqj:q=j
    ·subst hqj;rw [List.getElem?_set_self hjl] at hq;exact .inl ⟨(Option.some.inj hq).symm,rfl⟩
    rw [List.getElem?_set_ne (fun h=>hqj h.symm)] at hq;exact .inr ⟨hqj,hq⟩
   have hrow:=j5 (gm 103) (gm 103) ps j p ({p.1 with claims:=p.1.claims++[cQ size x]},nx1+2) hp rfl (fun _ _ _ _=>rfl);have hfo:gm 103 j ({p.1 with claims:=p.1.claims++[cQ size x]},nx1+2)= .own (b+103) (nx1+2) (p.1.claims.length+1) 5:=by simp [gm,hb]
   rw [hfo,←mb _ _ _ (by rw [j4];omega)] at hrow;refine ⟨_,(fP (tbl 103 38 (ps.set j ({p.1 with claims:=p.1.claims++[cQ size x]},nx1+2))) [3,4,10,11,12,51,52,53] [49,10,11] (ly (fun q r hq=>?tq51) _)).trans (u5 0),list.length-(k+1),by omega,k+1,ps.set j ({p.1 with claims:=p.1.claims++[cQ size x]},nx1+2),s,nx1+3,by omega,rfl,hL1,by rw [List.length_set];exact hpl,hok2,?sq51⟩;case sq51=>(simp only [F63,seval,hrow];rfl)
   case tq51=>
    rcases hsub q r hq with ⟨rfl,rfl⟩|⟨h1,h2⟩
    ·simp only [←hb,aB,F103,seval,reduceIte,List.length_append,List.length_cons,List.length_nil,Nat.zero_add,a7,b0,cQ,hhold,Jd]
    have g1:1000*(q+1)+103≠b+103:=by omega
    have g2:1000*(q+1)+103≠b+102:=by omega
    simp only [aB,g1,g2,if_false,show 1000*(q+1)+103≠49 by omega,show 1000*(q+1)+103≠16 by omega,show 1000*(q+1)+103≠11 by omega,show 1000*(q+1)+103≠10 by omega];exact kK (by decide) h2
  refine ⟨_,(pl x.d hx3.2.2.2),(by first|rfl|simp [aU,aD,al,ax,A1.cells,ab au,ab aN,ab b5]),?_⟩;try simp only [ak,F63,seval,F103,F102,hx1,htb,ai]
  refine ⟨?_,?_⟩
  ·repeat refine ob ?_
   refine awN ?_;simp only [F63,seval];repeat refine ob ?_
   have hadd:gn size (ps.map (·.1)) x=(ps.set j ({p.1 with claims:=p.1.claims++[cQ size x]},nx1+2)).map (·.1):=by rw [List.map_set];unfold gn;rw [←hj,hgd,if_neg (by omega)]
   rw [hadd] at hL1;have hok2:=jY size (ps.map (·.1)) x hok;rw [hadd] at hok2;have hsub:∀q r,(ps.set j ({p.1 with claims:=p.1.claims++[cQ size x]},nx1+2))[q]? =some r->r=({p.1 with claims:=p.1.claims++[cQ size x]},nx1+2)/\q=j∨q≠j/\ps[q]? =some r:=by
    intro q r hq;by_cases hqj:q=j
    ·subst hqj;rw [List.getElem?_set_self hjl] at hq;exact .inl ⟨(Option.some.inj hq).symm,rfl⟩
    rw [List.getElem?_set_ne (fun h=>hqj h.symm)] at hq;exact .inr ⟨hqj,hq⟩
   have hrow:=j5 (gm 103) (gm 103) ps j p ({p.1 with claims:=p.1.claims++[cQ size x]},nx1+2) hp rfl (fun _ _ _ _=>rfl);have hfo:gm 103 j ({p.1 with claims:=p.1.claims++[cQ size x]},nx1+2)= .own (b+103) (nx1+2) (p.1.claims.length+1) 5:=by simp [gm,hb]
   rw [hfo,←mb _ _ _ (by rw [j4];omega)] at hrow;refine ⟨_,(fP (tbl 103 38 (ps.set j ({p.1 with claims:=p.1.claims++[cQ size x]},nx1+2))) [3,4,10,11,12,51,52,53] [49,10,11] (ly (fun q r hq=>?tq53) _)).trans (u5 0),list.length-(k+1),by omega,k+1,ps.set j ({p.1 with claims:=p.1.claims++[cQ size x]},nx1+2),s,nx1+3,by omega,rfl,hL1,by rw [List.length_set];exact hpl,hok2,?sq53⟩;case sq53=>(simp only [F63,seval,hrow];rfl)
   case tq53=>
    rcases hsub q r hq with ⟨rfl,rfl⟩|⟨h1,h2⟩
    ·simp only [←hb,aB,F103,seval,reduceIte,List.length_append,List.length_cons,List.length_nil,Nat.zero_add,a7,b0,cQ,hhold,Jd]
    have g1:1000*(q+1)+103≠b+103:=by omega
    have g2:1000*(q+1)+103≠b+102:=by omega
    simp only [aB,g1,g2,if_false,show 1000*(q+1)+103≠49 by omega,show 1000*(q+1)+103≠16 by omega,show 1000*(q+1)+103≠11 by omega,show 1000*(q+1)+103≠10 by omega];exact kK (by decide) h2
  refine ⟨?_,?_⟩
  ·repeat refine ob ?_
   refine awN ?_;simp only [F63,seval];repeat refine ob ?_
   have hadd:gn size (ps.map (·.1)) x=(ps.set j ({p.1 with claims:=p.1.claims++[cQ size x]},nx1+2)).map (·.1):=by rw [List.map_set];unfold gn;rw [←hj,hgd,if_neg (by omega)]
   rw [hadd] at hL1;have hok2:=jY size (ps.map (·.1)) x hok;rw [hadd] at hok2;have hsub:∀q r,(ps.set j ({p.1 with claims:=p.1.claims++[cQ size x]},nx1+2))[q]? =some r->r=({p.1 with claims:=p.1.claims++[cQ size x]},nx1+2)/\q=j∨q≠j/\ps[q]? =some r:=by
    intro q r hq;by_cases hqj:q=j
    ·subst hqj;rw [List.getElem?_set_self hjl] at hq;exact .inl ⟨(Option.some.inj hq).symm,rfl⟩
    rw [List.getElem?_set_ne (fun h=>hqj h.symm)] at hq;exact .inr ⟨hqj,hq⟩
   have hrow:=j5 (gm 103) (gm 103) ps j p ({p.1 with claims:=p.1.claims++[cQ size x]},nx1+2) hp rfl (fun _ _ _ _=>rfl);have hfo:gm 103 j ({p.1 with claims:=p.1.claims++[cQ size x]},nx1+2)= .own (b+103) (nx1+2) (p.1.claims.length+1) 5:=by simp [gm,hb]
   rw [hfo,←mb _ _ _ (by rw [j4];omega)] at hrow;refine ⟨_,(fP (tbl 103 38 (ps.set j ({p.1 with claims:=p.1.claims++[cQ size x]},nx1+2))) [3,4,10,11,12,51,52,53] [49,10,11] (ly (fun q r hq=>?tq55) _)).trans (u5 0),list.length-(k+1),by omega,k+1,ps.set j ({p.1 with claims:=p.1.claims++[cQ size x]},nx1+2),s,nx1+3,by omega,rfl,hL1,by rw [List.length_set];exact hpl,hok2,?sq55⟩;case sq55=>(simp only [F63,seval,hrow];rfl)
   case tq55=>
    rcases hsub q r hq with ⟨rfl,rfl⟩|⟨h1,h2⟩
    ·simp only [←hb,aB,F103,seval,reduceIte,List.length_append,List.length_cons,List.length_nil,Nat.zero_add,a7,b0,cQ,hhold,Jd]
    have g1:1000*(q+1)+103≠b+103:=by omega
    have g2:1000*(q+1)+103≠b+102:=by omega
    simp only [aB,g1,g2,if_false,show 1000*(q+1)+103≠49 by omega,show 1000*(q+1)+103≠16 by omega,show 1000*(q+1)+103≠11 by omega,show 1000*(q+1)+103≠10 by omega];exact kK (by decide) h2
  repeat refine ob ?_
  refine awN ?_;simp only [F63,seval];repeat refine ob ?_
  have hadd:gn size (ps.map (·.1)) x=(ps.set j ({p.1 with claims:=p.1.claims++[cQ size x]},nx1+2)).map (·.1):=by rw [List.map_set];unfold gn;rw [←hj,hgd,if_neg (by omega)]
  rw [hadd] at hL1;have hok2:=jY size (ps.map (·.1)) x hok;rw [hadd] at hok2;have hsub:∀q r,(ps.set j ({p.1 with claims:=p.1.claims++[cQ size x]},nx1+2))[q]? =some r->r=({p.1 with claims:=p.1.claims++[cQ size x]},nx1+2)/\q=j∨q≠j/\ps[q]? =some r:=by
   intro q r hq;by_cases hqj:q=j
   ·subst hqj;rw [List.getElem?_set_self hjl] at hq;exact .inl ⟨(Option.some.inj hq).symm,rfl⟩
   rw [List.getElem?_set_ne (fun h=>hqj h.symm)] at hq;exact .inr ⟨hqj,hq⟩
  have hrow:=j5 (gm 103) (gm 103) ps j p ({p.1 with claims:=p.1.claims++[cQ size x]},nx1+2) hp rfl (fun _ _ _ _=>rfl);have hfo:gm 103 j ({p.1 with claims:=p.1.claims++[cQ size x]},nx1+2)= .own (b+103) (nx1+2) (p.1.claims.length+1) 5:=by simp [gm,hb]
  rw [hfo,←mb _ _ _ (by rw [j4];omega)] at hrow;refine ⟨_,(fP (tbl 103 38 (ps.set j ({p.1 with claims:=p.1.claims++[cQ size x]},nx1+2))) [3,4,10,11,12,51,52,53] [49,10,11] (ly (fun q r hq=>?tq57) _)).trans (u5 0),list.length-(k+1),by omega,k+1,ps.set j ({p.1 with claims:=p.1.claims++[cQ size x]},nx1+2),s,nx1+3,by omega,rfl,hL1,by rw [List.length_set];exact hpl,hok2,?sq57⟩;case sq57=>(simp only [F63,seval,hrow];rfl)
  case tq57=>
   rcases hsub q r hq with ⟨rfl,rfl⟩|⟨h1,h2⟩
   ·simp only [←hb,aB,F103,seval,reduceIte,List.length_append,List.length_cons,List.length_nil,Nat.zero_add,a7,b0,cQ,hhold,Jd]
   have g1:1000*(q+1)+103≠b+103:=by omega
   have g2:1000*(q+1)+103≠b+102:=by omega
   simp only [aB,g1,g2,if_false,show 1000*(q+1)+103≠49 by omega,show 1000*(q+1)+103≠16 by omega,show 1000*(q+1)+103≠11 by omega,show 1000*(q+1)+103≠10 by omega];exact kK (by decide) h2
 refine awN ?_;simp only [F63,seval,hlt1];refine awF ?_;refine awQ ?_;simp only [F63,seval];refine awN ?_;simp only [F63,seval];obtain rfl:k=list.length:=by omega
 rw [List.drop_length,List.foldl_nil] at hL1;refine eC (tbl 103 38 ps) [4,10,11,12,107,108,109] [49,10,11] (by intro y B h;obtain ⟨q,r,rfl,h2,h3⟩:=hZ h;right;simpa [aB,show 1000*(q+1)+103≠49 by omega,show 1000*(q+1)+103≠16 by omega,show 1000*(q+1)+103≠11 by omega,show 1000*(q+1)+103≠10 by omega] using h) ?_;simp only [F63,seval];refine cm (M6 103 38 36 (by decide) 49 [(10,⟨0,28,2,1,[.lit (.slice none 0 0),.lit (.slice none 0 0)]⟩),(11,⟨1,28,2,1,[.own 49 s size 5,.lit (.slice none 0 0)]⟩)] (by simp) (by decide) size nx1 ps) ?_;refine cm (dz 49 (aA aJ (ps.map (·.1))) (by rfl) (by show (5:Nat)≠0;decide) (by rw [bo i4,List.length_map];exact (j4 fSh ps 0).symm) (KJ ps 0 (fun p hp=>(hok p.1 (List.mem_map.2 ⟨p,hp,rfl⟩)).2))) ?_;have hpl2:(ps.map (·.1)).length=size:=by rw [List.length_map];exact hpl
 generalize ps.map (·.1)=es0 at *
 refine aQ [4,10,11,12,107,108,109] [49,10,11] ?_;try simp only [ak,F63,seval]
 repeat' first|apply awS|apply awB
 refine aM (fun n st=>∃k es s nx,k<=pools.length/\n=pools.length-k/\(pools.drop k).foldl (xD size) es=pools.foldl (xD size) es0/\es.length=size/\(∀e∈es,okB e)/\st=⟨mkT [(4,.val (.one (.sh 3 debts.length (aA cN3 debts)))),(10,.val (.one (.ptr 10 0 0))),(11,.val (.one (.ptr 11 1 0))),(12,one (.int .i64 (size:Int))),(107,.val (.one (.sh 3 pools.length (aA cN3 pools)))),(108,one (.int .i64 pools.length)),(109,one (.int .i64 k))],mkH [(49,⟨s,36,5,size,aA aJ es⟩),(10,⟨0,28,2,1,[.lit (.slice none 0 0),.lit (.slice none 0 0)]⟩),(11,⟨1,28,2,1,[.own 49 s size 5,.lit (.slice none 0 0)]⟩)],nx,0⟩) (pools.length) ⟨0,es0,_,_,by omega,by omega,rfl,hpl2,fun e he=>⟨(hok e he).1,by rw [(hok e he).2];simp,by rw [(hok e he).2];simp⟩,rfl⟩ ?_;rintro n2 st ⟨k,es,s,nx2,hk,rfl,hL2,hel,hoB,rfl⟩;by_cases hlt2:(k:Int)<(pools.length:Int)
 ·refine awN ?_;simp only [F63,seval,hlt2];refine awT ?_;refine awK ?_;simp only [F63,seval];have hltn:k<pools.length:=by omega
  have hp3:=hpo _ (List.getElem_mem hltn);have hatl:=aO Kn pools k hltn;rw [List.drop_eq_getElem_cons hltn,List.foldl_cons] at hL2;generalize pools[k]=p at *
  have hjl:p.a%size<es.length:=by rw [hel];exact Nat.mod_lt _ (by omega)
  have hw4:=JA p.a size;refine awN ?_;simp only [F63,seval,hlt2,hatl,cN3];repeat refine ob ?_
  refine awN ?_;simp only [F63,seval,hw4];repeat refine ob ?_
  obtain ⟨j,hj⟩:∃j,p.a%size=j:=⟨_,rfl⟩;rw [hj] at hjl ⊢;obtain ⟨e,hee⟩:∃e,es[j]=e:=⟨_,rfl⟩;have hge:es.getD (p.a%size) gr=e:=by rw [hj,List.getD_eq_getElem?_getD,List.getElem?_eq_getElem hjl,hee];rfl
  have hokj:okB e:=hee▸hoB _ (List.getElem_mem hjl);have hate:(aA aJ es).drop (j*5)=aJ e++aA aJ (es.drop (j+1)):=by have:=aO i4 es j hjl;rwa [hee] at this
  have hset:spl (aA aJ es) (j*5+4) [.sh 1 (e.agrs++[bgN e p]).length (aA bu (e.agrs++[bgN e p]))]=aA aJ (es.set j ⟨e.cash,e.claims,e.agrs++[bgN e p]⟩):=zl i4 es j 4 _ _ hjl (by simp) (by rw [hee];simp [aJ,spl]);have hag:xD size es p=if ((e.agrs.length:Int)<2) then es.set j ⟨e.cash,e.claims,e.agrs++[bgN e p]⟩ else es:=by unfold xD;rw [hge,hj]
  have hfl:=bo i4 es;have hg4:(aA aJ es)[j*5+4]? =some (.sh 1 e.agrs.length (aA bu e.agrs)):=by rw [←List.getElem?_drop,hate];rfl
  by_cases h2:(e.agrs.length:Int)<2
  ·refine awN ?_;simp only [F63,seval,h2,hg4];repeat refine ob ?_
   refine awT ?_;have hagr:e.claims.length<=30/\e.agrs.length<=1000000000000/\∀a∈e.agrs,a.length<=1000000000000/\∀t∈a,t.length<=1000000000000:=⟨by have:=hokj.1;omega,by have:=hokj.2.1;omega,fun a ha=>⟨by have:=(hokj.2.2 a ha).1;omega,fun t ht=>by have:=(hokj.2.2 a ha).2 t ht;omega⟩⟩;refine awD (scT 0 9 (scq [18,21,23,24] .nil)) [0,0,0,0,0,0,0,0,0,0,0,0,0] ?_;simp only [F63,seval,hate,aJ,ab ao,ab au];repeat refine ob ?_
   refine ⟨_,(Na e p hp3 hagr.1 hagr.2.1 hagr.2.2),(by first|rfl|simp [al,ax,ab au]),?_⟩;try simp only [ak,F63,seval]
   repeat refine ob ?_
   refine awN ?_;simp only [F63,seval];repeat refine ob ?_
   have hnew:=JO size es p hoB;have hnl:=xB size es p;rw [hag,if_pos h2] at hL2 hnew hnl;refine ⟨_,aI [4,10,11,12,107,108,109] [49,10,11],pools.length-(k+1),by omega,k+1,(es.set j ⟨e.cash,e.claims,e.agrs++[bgN e p]⟩),s,?nq66,by omega,rfl,hL2,by rw [hnl];exact hel,hnew,?sq66⟩;case sq66=>(simp only [F63,seval,hset];rfl)
  refine awN ?_;simp only [F63,seval,h2,hg4];repeat refine ob ?_
  refine awF ?_;refine awK ?_;simp only [F63,seval];refine awN ?_;simp only [F63,seval];repeat refine ob ?_
  have hnew:=JO size es p hoB;have hnl:=xB size es p;rw [hag,if_neg h2] at hL2 hnew hnl;refine ⟨_,aI [4,10,11,12,107,108,109] [49,10,11],pools.length-(k+1),by omega,k+1,es,s,?nq69,by omega,rfl,hL2,by rw [hnl];exact hel,hnew,?sq69⟩;case sq69=>(simp only [F63,seval];rfl)
 refine awN ?_;simp only [F63,seval,hlt2];refine awF ?_;refine awQ ?_;simp only [F63,seval];refine awN ?_;simp only [F63,seval];obtain rfl:k=pools.length:=by omega
 rw [List.drop_length,List.foldl_nil] at hL2;refine dp 49 11 0 (by rfl) (by rfl) (by rfl) (by decide) (by show (5:Nat)≠0;decide) (by show (2:Nat)≠0;decide) rfl ?_;refine cm (dz 11 (am ⟨es,[]⟩) (by rfl) (by show (2:Nat)≠0;decide) (by rfl) (fun κ vs h=>?_)) ?_
 ·obtain ⟨v1,vs1,rfl,d1,h⟩:=cv h;obtain ⟨v2,vs2,rfl,d2,h⟩:=cv h;exact ⟨hel.symm▸d1,m5 4 d2,h⟩
 refine aQ [10,11,12,139,140,141] [10,11] ?_;try simp only [ak,F63,seval]
 repeat' first|apply awS|apply awB
 refine aM (fun n st=>∃k ds nx,k<=debts.length/\n=debts.length-k/\(debts.drop k).foldl (s9 es) ds=debts.foldl (s9 es) []/\ds.length<=3/\(∀x∈ds,x.legs.length<=4)/\st=⟨mkT [(10,.val (.one (.ptr 10 0 0))),(11,.val (.one (.ptr 11 1 0))),(12,one (.int .i64 (size:Int))),(139,.val (.one (.sh 3 debts.length (aA cN3 debts)))),(140,one (.int .i64 debts.length)),(141,one (.int .i64 k))],mkH [(10,⟨0,28,2,1,[.lit (.slice none 0 0),.lit (.slice none 0 0)]⟩),(11,⟨1,28,2,1,am ⟨es,ds⟩⟩)],nx,0⟩) (debts.length) ⟨0,[],_,by omega,by omega,rfl,by simp,by simp,rfl⟩ ?_;rintro n3 st ⟨k,ds,nx3,hk,rfl,hL3,hdn,hdl,rfl⟩;by_cases hlt3:(k:Int)<(debts.length:Int)
 ·refine awN ?_;simp only [F63,seval,hlt3];refine awT ?_;refine awK ?_;simp only [F63,seval];have hltn:k<debts.length:=by omega
  have hd3:=hdo _ (List.getElem_mem hltn);have hatl:=aO Kn debts k hltn;rw [List.drop_eq_getElem_cons hltn,List.foldl_cons] at hL3;generalize debts[k]=d at *
  refine awN ?_;simp only [F63,seval,hlt3,hatl,cN3];repeat refine ob ?_
  by_cases h3:(ds.length:Int)<3
  ·refine awN ?_;simp only [F63,seval,h3,am];refine awT ?_;refine awN ?_;simp only [F63,seval,ab b5,ab aN];refine ⟨_,(NU ⟨es,ds⟩ d hd3 (by show es.length<=1000;omega) (fun e he=>by have:=(hoB e he).1;omega) (by show ds.length<=1000000000000;omega) (fun x hx=>by have:=hdl x hx;omega)),(by first|rfl|simp [al,ax,ab aN]),?_⟩;try simp only [ak,F63,seval]
   refine awN ?_;simp only [F63,seval];repeat refine ob ?_
   have hnew:=KK es ds d hdl hdn;have hag:s9 es ds d=ds++[owN ⟨es,ds⟩ d]:=by unfold s9;rw [if_pos h3]
   rw [hag] at hL3 hnew;refine ⟨_,aI [10,11,12,139,140,141] [10,11],debts.length-(k+1),by omega,k+1,(ds++[owN ⟨es,ds⟩ d]),?nq77,by omega,rfl,hL3,hnew.2,hnew.1,?sq77⟩;case sq77=>(simp only [F63,seval];rfl)
  refine awN ?_;simp only [F63,seval,h3,am];refine awF ?_;refine awK ?_;simp only [F63,seval];refine awN ?_;simp only [F63,seval];repeat refine ob ?_
  have hnew:=KK es ds d hdl hdn;have hag:s9 es ds d=ds:=by unfold s9;rw [if_neg h3]
  rw [hag] at hL3 hnew;refine ⟨_,aI [10,11,12,139,140,141] [10,11],debts.length-(k+1),by omega,k+1,ds,?nq80,by omega,rfl,hL3,hnew.2,hnew.1,?sq80⟩;case sq80=>(simp only [F63,seval];rfl)
 refine awN ?_;simp only [F63,seval,hlt3];refine awF ?_;refine awQ ?_;simp only [F63,seval];refine awN ?_;simp only [F63,seval,am];rw [List.drop_eq_nil_of_le (by omega),List.foldl_nil] at hL3;refine awX ?_;have hE:JC n cash list pools=es:=by unfold JC;rw [hsz,←hL1];exact hL2.symm
 simp only [F63,seval,ab b5,ab aN,Kj,hE,←hL3];try simp [al,ax,ab b5,ab aN]
theorem JP:jh gZ:=⟨by decide,by decide⟩
theorem xf {q:Rat} (h:qB 1 q):jh (enc q):=by
 have:=dT h;unfold jh sB at *
 omega
theorem fS (n:Nat) (h:n<256):qB 1 (((n:Nat):Int):Rat):=⟨by simp;omega,by simp⟩
def okQ (e:GEst):Prop:=jh e.cash/\(∀c∈e.claims,jh c.amount)/\∀a∈e.agrs,∀t∈a,∀p∈t,jh p.cap
theorem Mr:okQ gr:=⟨JP,by simp [gr],by simp [gr]⟩
theorem LO (cash:List Nat) (i:Nat):okQ (kY cash i):=by
 refine ⟨?_,by simp [kY],by simp [kY]⟩;unfold kY;dsimp only;split
 ·exact xf (na _)
 exact JP
theorem Ko (size:Nat) (es:List GEst) (x:N4) (h:∀e∈es,okQ e):∀e∈gn size es x,okQ e:=by
 unfold gn;split
 ·exact h
 have h0:=JE h Mr (x.a%size);generalize es.getD (x.a%size) gr=e at *
 refine Kk h _ ⟨h0.1,fun c hc=>?_,h0.2.2⟩;rcases List.mem_append.1 hc with h1|h1
 ·exact h0.2.1 c h1
 obtain rfl:c=cQ size x:=by simpa using h1
 exact xf (na _)
def okT (T:T3):Prop:=(∀p∈T.a,jh p.cap)/\(∀p∈T.b,jh p.cap)/\∀p∈T.c,jh p.cap
theorem Ly (T:T3) (x:Nat) (p:GPart) (h:okT T) (hp:jh p.cap):okT (T.put x p):=by
 unfold T3.put;have key:∀l:List GPart,(∀q∈l,jh q.cap)->∀q∈l++[p],jh q.cap:=fun l hl q hq=>by
  rcases List.mem_append.1 hq with h1|h1
  ·exact hl q h1
  obtain rfl:q=p:=by simpa using h1
  exact hp
 split
 ·exact ⟨key _ h.1,h.2.1,h.2.2⟩
 split
 ·exact ⟨h.1,key _ h.2.1,h.2.2⟩
 exact ⟨h.1,h.2.1,key _ h.2.2⟩
theorem NE (p:N3) (i:Nat):jh (bgP p i).cap:=by
 unfold bgP;split
 ·exact xf (fS _ (by omega))
 exact JP
theorem Lz (agrs:List bR) (p:N3):∀(l:List GClaim) (i:Nat) (T:T3),okT T->okT (bgL agrs p l i T)
 |[],_,_,h=>h
 |_::l,i,T,h=>by
  refine Lz agrs p l (i+1) _ ?_;unfold bgS;split
  ·exact h
  split
  ·exact Ly _ _ _ h (NE p i)
  exact h
theorem Nc (e:GEst) (p:N3):∀t∈bgN e p,∀q∈t,jh q.cap:=by
 have h1:okT (bgT p (bgL e.agrs p e.claims 0 ⟨[],[],[]⟩)):=by
  have h0:=Lz e.agrs p e.claims 0 ⟨[],[],[]⟩ ⟨by simp,by simp,by simp⟩;unfold bgT;split
  ·exact Ly _ _ _ h0 (xf (fS _ (by omega)))
  exact h0
 intro t ht q hq;simp only [bgN,List.mem_cons,List.not_mem_nil,or_false] at ht;rcases ht with rfl|rfl|rfl
 ·exact h1.1 q hq
 ·exact h1.2.1 q hq
 exact h1.2.2 q hq
theorem LP (size:Nat) (es:List GEst) (p:N3) (h:∀e∈es,okQ e):∀e∈xD size es p,okQ e:=by
 unfold xD;split
 ·have h0:=JE h Mr (p.a%size);generalize es.getD (p.a%size) gr=e at *
  refine Kk h _ ⟨h0.1,h0.2.1,fun a ha t ht q hq=>?_⟩;rcases List.mem_append.1 ha with h1|h1
  ·exact h0.2.2 a h1 t ht q hq
  obtain rfl:a=bgN e p:=by simpa using h1
  exact Nc e p t ht q hq
 exact h
theorem yl {α:Type} {Pr:GEst->Prop} (f:List GEst->α->List GEst) (hf:∀es x,(∀e∈es,Pr e)->∀e∈f es x,Pr e):∀(l:List α) (es:List GEst),(∀e∈es,Pr e)->∀e∈l.foldl f es,Pr e
 |[],_,h=>h
 |x::l,es,h=>yl f hf l (f es x) (hf es x h)
theorem Jg {α:Type} (f:List GEst->α->List GEst) (hf:∀es x,(f es x).length=es.length):∀(l:List α) (es:List GEst),(l.foldl f es).length=es.length
 |[],_=>rfl
 |x::l,es=>(Jg f hf l (f es x)).trans (hf es x)
theorem Ms (n:Nat) (cash:List Nat) (list:List N4) (pools:List N3):∀e∈JC n cash list pools,okQ e:=
 yl _ (LP _) _ _ (yl _ (Ko _) _ _ fun e he=>by
  obtain ⟨i,_,rfl⟩:=List.mem_map.1 he;exact LO cash i)
theorem KO (n:Nat) (cash:List Nat) (list:List N4) (pools:List N3):∀e∈JC n cash list pools,okB e:=
 yl _ (JO _) _ _ fun e he=>by
  have h:=yl (Pr:=okC) (gn (1+n%4)) (jY _) list _ (fun e he=>by
   obtain ⟨i,_,rfl⟩:=List.mem_map.1 he;exact ⟨by simp [kY],rfl⟩) e he
  exact ⟨h.1,by rw [h.2];simp,by rw [h.2];simp⟩
theorem Mt (n:Nat) (cash:List Nat) (list:List N4) (pools:List N3):(JC n cash list pools).length=1+n%4:=by
 unfold JC;rw [Jg _ (xB _),Jg _ (JD _)];simp
theorem Mu {e:GEst} (h:okB e) (q:okQ e):jC e:=by
 refine ⟨⟨q.1,q.2.1,by have:=h.1;omega,fun a ha=>⟨fun t ht=>by have:=(h.2.2 a ha).2 t ht;omega,fun p hp=>?_⟩⟩,fun a ha=>by have:=(h.2.2 a ha).1;omega⟩;obtain ⟨t,ht,hp⟩:=List.mem_flatten.1 hp;exact q.2.2 a ha t ht p hp
theorem KP (es:List GEst):∀(l:List N3) (ds:List GDebt),(∀d∈ds,jh d.whole/\d.legs.length<=4)/\ds.length<=3->(∀d∈l.foldl (s9 es) ds,jh d.whole/\d.legs.length<=4)/\(l.foldl (s9 es) ds).length<=3
 |[],_,h=>h
 |x::l,ds,h=>by
  refine KP es l (s9 es ds x) ?_;unfold s9;split
  ·refine ⟨fun d hd=>?_,by simp only [List.length_append,List.length_cons,List.length_nil];omega⟩;rcases List.mem_append.1 hd with h1|h1
   ·exact h.1 d h1
   obtain rfl:d=owN ⟨es,ds⟩ x:=by simpa using h1
   exact ⟨xf (na _),Lx _ _⟩
  exact h
theorem LA (n:Nat) (cash:List Nat) (list:List N4) (pools debts:List N3):Kf (Kj n cash list pools debts)/\(Kj n cash list pools debts).debts.length<=3/\∀d∈(Kj n cash list pools debts).debts,d.legs.length<=4:=by
 have h:=KP (JC n cash list pools) debts [] ⟨by simp,by simp⟩;exact ⟨⟨fun e he=>Mu (KO n cash list pools e he) (Ms n cash list pools e he),fun d hd=>(h.1 d hd).1,fun d hd=>by have:=(h.1 d hd).2;omega⟩,h.2,fun d hd=>(h.1 d hd).2⟩
end Go.Proofs.YtokmkopihhnggaaGreatDoor
namespace Go.Proofs.YtokmkopihhnggaaGreatDoor
open Go Go.RowKit Go.ChangeShapes Go.WideShapes Go.ChangeAt Go.Proofs.Tryz
theorem LQ:eI prog 5 (rC (fun n:Nat=>[.lit (.int .u8 n)]) (·<256)):=by
 intro H enc W fuel cs x h;obtain ⟨n,rfl,hn⟩:=Mg underlying5 H enc W fuel cs x h;exact ⟨n,⟨⟨rfl,rfl⟩,trivial⟩,hn⟩
theorem k9:eI prog 57 (rC Kl (·<65536)):=by
 intro H enc W fuel cs x h;obtain ⟨n,rfl,hn⟩:=LL underlying57 H enc W fuel cs x h;exact ⟨n,⟨⟨rfl,rfl⟩,trivial⟩,hn⟩
theorem Tryz.cellsU16:prog.cellsOf 57=1:=by kernel_rfl
theorem Tryz.cellsN4:prog.cellsOf 97=4:=by kernel_rfl
theorem Tryz.cellsN3:prog.cellsOf 98=3:=by kernel_rfl
theorem KQ:eI prog 56 (rC (cSl 1 Kl) (qU (·<65536))):=JL underlying56 Tryz.cellsU16 (by decide) KL k9
def Kp (x:N4):Prop:=x.a<65536/\x.b<65536/\x.c<65536/\x.d<65536
def LR (x:N3):Prop:=x.a<65536/\x.b<65536/\x.c<65536
theorem LS:eI prog 97 (rC cN4 Kp):=by
 intro H enc W fuel cs x h;obtain ⟨xs,m,_,_,hl,hxs,hf⟩:=DataW.trod_array underlying97 h;rw [Tryz.cellsN4] at hl;simp only [Tryz.cellsU16] at hf;match cs,hl with
 |[c0,c1,c2,c3],_=>
  have h0:=hf 0 (by decide);rw [List.getElem?_eq_getElem (by omega)] at h0;have h1:=hf 1 (by decide);rw [List.getElem?_eq_getElem (by omega)] at h1;have h2:=hf 2 (by decide);rw [List.getElem?_eq_getElem (by omega)] at h2;have h3:=hf 3 (by decide);rw [List.getElem?_eq_getElem (by omega)] at h3;obtain ⟨a0,k0,o0⟩:=k9 H enc W _ _ _ h0;obtain ⟨a1,k1,o1⟩:=k9 H enc W _ _ _ h1;obtain ⟨a2,k2,o2⟩:=k9 H enc W _ _ _ h2;obtain ⟨a3,k3,o3⟩:=k9 H enc W _ _ _ h3;replace k0:denVs (fd W) [c0] _:=k0;replace k1:denVs (fd W) [c1] _:=k1;replace k2:denVs (fd W) [c2] _:=k2;replace k3:denVs (fd W) [c3] _:=k3;exact ⟨⟨a0,a1,a2,a3⟩,denVs.append k0 (denVs.append k1 (denVs.append k2 k3)),o0,o1,o2,o3⟩
theorem JQ:eI prog 22 (rC (cSl 4 cN4) (qU Kp)):=JL underlying22 Tryz.cellsN4 (by decide) Km LS
theorem LU:eI prog 98 (rC cN3 LR):=by
 intro H enc W fuel cs x h;obtain ⟨xs,m,_,_,hl,hxs,hf⟩:=DataW.trod_array underlying98 h;rw [Tryz.cellsN3] at hl;simp only [Tryz.cellsU16] at hf;match cs,hl with
 |[c0,c1,c2],_=>
  have h0:=hf 0 (by decide);rw [List.getElem?_eq_getElem (by omega)] at h0;have h1:=hf 1 (by decide);rw [List.getElem?_eq_getElem (by omega)] at h1;have h2:=hf 2 (by decide);rw [List.getElem?_eq_getElem (by omega)] at h2;obtain ⟨a0,k0,o0⟩:=k9 H enc W _ _ _ h0;obtain ⟨a1,k1,o1⟩:=k9 H enc W _ _ _ h1;obtain ⟨a2,k2,o2⟩:=k9 H enc W _ _ _ h2;replace k0:denVs (fd W) [c0] _:=k0;replace k1:denVs (fd W) [c1] _:=k1;replace k2:denVs (fd W) [c2] _:=k2;exact ⟨⟨a0,a1,a2⟩,denVs.append k0 (denVs.append k1 k2),o0,o1,o2⟩
theorem JR:eI prog 23 (rC (cSl 3 cN3) (qU LR)):=JL underlying23 Tryz.cellsN3 (by decide) Kn LU
end Go.Proofs.YtokmkopihhnggaaGreatDoor
