/- The builder of groups: law0.Group; walked by the abstract machine. -/
import Derived.Test.YtokmkopihhnggaaGreatDoorGu1M
import Derived.Test.YtokmkopihhnggaaGreatDoorFewM
import Derived.Test.YtokmkopihhnggaaGreatDoorAbBM
set_option linter.unusedVariables false
set_option maxHeartbeats 4000000
set_option maxRecDepth 100000
set_option linter.unusedSimpArgs false
set_option linter.defProp false
set_option linter.unusedSectionVars false
namespace Go.Proofs.YtokmkopihhnggaaGreatDoor
open Go Go.RowKit Go.Proofs.Tryz
theorem JA (n m:Nat):((n:Nat):Int).tmod (m:Int)=((n%m:Nat):Int):=by norm_cast
def F22:=And.intro zS (And.intro Gi (And.intro Ex (And.intro Lf (And.intro CI (And.intro Ew (And.intro I2 (And.intro A0 (And.intro CJ (And.intro tv (And.intro mN (And.intro IY (And.intro Hu (And.intro Ey (And.intro Ge (And.intro pq (And.intro tw (And.intro Hv (And.intro gH (And.intro CL (And.intro Hy (And.intro tz (And.intro pr (And.intro Ht (And.intro Hw (And.intro pt (And.intro Hx (And.intro cD (And.intro ll (And.intro AY (And.intro CN (And.intro CP (And.intro I3 (And.intro I4 (And.intro tf4 (And.intro CH (And.intro Hz (And.intro Gm (And.intro Gn (And.intro xF (And.intro Ez (HJ)))))))))))))))))))))))))))))))))))))))))
theorem F23:type_of%F22:=F22
theorem Nb (n:Nat) (cash:List Nat) (list:List N4) (pools debts:List N3) (hn:n<256) (hcs:∀x∈cash,x<65536) (hl:∀x∈list,x.a<65536/\x.b<65536/\x.c<65536/\x.d<65536) (hpo:∀p∈pools,p.a<65536/\p.b<65536/\p.c<65536) (hdo:∀p∈debts,p.a<65536/\p.b<65536/\p.c<65536)
  (hc0:cash.length<=9223372036854775807) (hl0:list.length<=9223372036854775807) (hp0:pools.length<=9223372036854775807) (hd0:debts.length<=9223372036854775807):aR prog 12 [.one (.lit (.int .u8 n)),.one (.sh 1 cash.length (aA Kl cash)),.one (.sh 4 list.length (aA cN4 list)),.one (.sh 3 pools.length (aA cN3 pools)),.one (.sh 3 debts.length (aA cN3 debts))] (.val (.agg (yk (Kj n cash list pools debts)))):=by
 refine aP func12 rfl (by decide) (N:=155) rfl (by simp) (R:=[.cell 10 28]) rfl fun en k0=>?_
 refine awN ?_;simp only [F23,seval];refine awN ?_;simp only [F23,seval];have w1:IntKind.i64.wrap ((n%4:Nat):Int)=((n%4:Nat):Int):=wri _ (by omega);have w2:((n:Nat):Int).tmod 4=((n%4:Nat):Int):=JA n 4;have w3:(1:Int)+((n%4:Nat):Int)=((1+n%4:Nat):Int):=by omega
 refine awN ?_;simp only [F23,seval,w2,w3];repeat refine ob ?_
 generalize hsz:1+n%4=size at *
 refine awN ?_;simp only [F23,seval];refine lX 11 0 49 _ 36 5 (by decide) (by rfl) (by decide) (by simp) (by rfl) ?_;refine aQ [1,2,3,4,10,11,12,13] [49,10,11] ?_;try simp only [ak,F23,seval]
 repeat' first|apply awS|apply awB
 refine aM (fun n st=>∃i s nx,i<=size/\n=size-i/\st=⟨mkT [(1,.val (.one (.sh 1 cash.length (aA Kl cash)))),(2,.val (.one (.sh 4 list.length (aA cN4 list)))),(3,.val (.one (.sh 3 pools.length (aA cN3 pools)))),(4,.val (.one (.sh 3 debts.length (aA cN3 debts)))),(10,.val (.one (.ptr 10 0 0))),(11,.val (.one (.ptr 11 1 0))),(12,one (.int .i64 (size:Int))),(13,one (.int .i64 i))],mkH [(49,⟨s,36,5,i,k6 rd ((List.range i).map (fun j=>(o5 cash j,0))) 0⟩),(10,⟨0,28,2,1,[.lit (.slice none 0 0),.lit (.slice none 0 0)]⟩),(11,⟨1,28,2,1,[.own 49 s i 5,.lit (.slice none 0 0)]⟩)],nx,0⟩) (size) ⟨0,_,_,by omega,by omega,rfl⟩ ?_;rintro n0 st ⟨i,s,nx0,hi,rfl,rfl⟩;by_cases hI:(i:Int)<(size:Int)
 ·refine awN ?_;simp only [F23,seval,hI];refine awT ?_;refine awK ?_;simp only [F23,seval];refine awN ?_;simp only [F23,seval];by_cases hc:(i:Int)<(cash.length:Int)
  ·refine awN ?_;simp only [F23,seval,hc];refine awT ?_;have hcl:i<cash.length:=by omega
   have hatc:=aO KL cash i hcl;rw [Nat.mul_one] at hatc;have hci:=hcs _ (List.getElem_mem hcl);refine awN ?_;simp only [F23,seval,hc,hatc,Kl];repeat refine ob ?_
   refine ⟨_,(Oc _ hci),(by first|rfl|simp [aU,aD,al,ax,A1.cells,ab au,ab aN,ab ot]),?_⟩;try simp only [ak,F23,seval,ai]
   refine awN ?_;simp only [F23,seval];repeat refine ob ?_
   refine awN ?_;simp only [F23,seval];repeat refine ob ?_
   have hmk:(o5 cash i).cash=enc (pb cash[i]):=by unfold o5;simp [Jd,hcl]
   have hrw:k6 rd ((List.range (i+1)).map (fun j=>(o5 cash j,0))) 0=k6 rd ((List.range i).map (fun j=>(o5 cash j,0))) 0++[.lit (.bool (enc (pb cash[i])).neg),.lit (.string (enc (pb cash[i])).num),.lit (.string (enc (pb cash[i])).den),.lit (.slice none 0 0),.lit (.slice none 0 0)]:=by rw [List.range_succ,List.map_append,td];simp only [List.map_cons,List.map_nil,k6,hmk,rd,List.append_nil]
   refine ⟨_,aI [1,2,3,4,10,11,12,13] [49,10,11],size-(i+1),by omega,i+1,nx0+2,nx0+3,by omega,rfl,?_⟩;simp only [F23,seval,hrw];try rfl
  refine awN ?_;simp only [F23,seval,hc];refine awF ?_;refine awK ?_;simp only [F23,seval];refine awN ?_;simp only [F23,seval];repeat refine ob ?_
  refine awN ?_;simp only [F23,seval];repeat refine ob ?_
  have hmk:(o5 cash i).cash=gZ:=by unfold o5;simp [show ¬i<cash.length by omega]
  have hrw:k6 rd ((List.range (i+1)).map (fun j=>(o5 cash j,0))) 0=k6 rd ((List.range i).map (fun j=>(o5 cash j,0))) 0++[.lit (.bool (gZ).neg),.lit (.string (gZ).num),.lit (.string (gZ).den),.lit (.slice none 0 0),.lit (.slice none 0 0)]:=by rw [List.range_succ,List.map_append,td];simp only [List.map_cons,List.map_nil,k6,hmk,rd,List.append_nil]
  refine ⟨_,aI [1,2,3,4,10,11,12,13] [49,10,11],size-(i+1),by omega,i+1,nx0+2,nx0+3,by omega,rfl,?_⟩;simp only [F23,seval,hrw];try rfl
 refine awN ?_;simp only [F23,seval,hI];refine awF ?_;refine awQ ?_;simp only [F23,seval];refine awN ?_;simp only [F23,seval];obtain rfl:size=i:=by omega
 refine aQ [3,4,10,11,12,51,52,53] [49,10,11] ?_;try simp only [ak,F23,seval]
 rw [Mq (m:=(List.range size).map (fun j=>(o5 cash j,nx0+j))) 0 (by rw [List.map_map,List.map_map];rfl)];refine cm (M5 103 38 36 (by decide) 49 [(10,⟨0,28,2,1,[.lit (.slice none 0 0),.lit (.slice none 0 0)]⟩),(11,⟨1,28,2,1,[.own 49 s size 5,.lit (.slice none 0 0)]⟩)] (by simp) (by decide) size nx0 ((List.range size).map (fun j=>(o5 cash j,nx0+j))) (fun j p hj=>?_)) ?_
 ·rw [List.getElem?_map] at hj;obtain ⟨i,hi,rfl⟩:=Option.map_eq_some_iff.1 hj;obtain rfl:j=i:=by obtain ⟨h1,h2⟩:=List.getElem?_eq_some_iff.1 hi;simpa using h2
  exact ⟨rfl,rfl⟩
 repeat' first|apply awS|apply awB
 refine aM (fun n st=>∃k ps s nx,k<=list.length/\n=list.length-k/\(list.drop k).foldl (gc size) (ps.map (·.1))=list.foldl (gc size) ((List.range size).map (o5 cash))/\ps.length=size/\(∀e∈ps.map (·.1),okC e)/\st=⟨mkT [(3,.val (.one (.sh 3 pools.length (aA cN3 pools)))),(4,.val (.one (.sh 3 debts.length (aA cN3 debts)))),(10,.val (.one (.ptr 10 0 0))),(11,.val (.one (.ptr 11 1 0))),(12,one (.int .i64 (size:Int))),(51,.val (.one (.sh 4 list.length (aA cN4 list)))),(52,one (.int .i64 list.length)),(53,one (.int .i64 k))],bZ (tbl 103 38 ps) [(49,⟨s,36,5,size,k6 (gm 103) ps 0⟩),(10,⟨0,28,2,1,[.lit (.slice none 0 0),.lit (.slice none 0 0)]⟩),(11,⟨1,28,2,1,[.own 49 s size 5,.lit (.slice none 0 0)]⟩)],nx,0⟩) (list.length) ⟨0,(List.range size).map (fun j=>(o5 cash j,nx0+j)),_,_,by omega,by omega,by rw [List.drop_zero,List.map_map];rfl,by simp,by intro e he;simp only [List.map_map,List.mem_map] at he;obtain ⟨j,_,rfl⟩:=he;exact ⟨by simp [o5],rfl⟩,rfl⟩ ?_;rintro n1 st ⟨k,ps,s,nx1,hk,rfl,hL1,hpl,hok,rfl⟩;by_cases hlt1:(k:Int)<(list.length:Int)
 ·refine awN ?_;simp only [F23,seval,hlt1];refine awT ?_;refine awK ?_;simp only [F23,seval];have hltn:k<list.length:=by omega
  have hx3:=hl _ (List.getElem_mem hltn);have hatl:=aO OU list k hltn;rw [List.drop_eq_getElem_cons hltn,List.foldl_cons] at hL1;generalize list[k]=x at *
  obtain ⟨j,hj⟩:∃j,j=x.a%size:=⟨_,rfl⟩;have hjl:j<ps.length:=by rw [hpl,hj];exact Nat.mod_lt _ (by omega)
  obtain ⟨p,hp⟩:∃p,ps[j]? =some p:=⟨_,List.getElem?_eq_getElem hjl⟩;refine awN ?_;simp only [F23,seval,hlt1,hatl,cN4];repeat refine ob ?_
  have w4:=JA x.a size;refine awN ?_;simp only [F23,seval,w4];repeat refine ob ?_
  by_cases h6:(6:Int)<=(p.1.claims.length:Int)
  ·rw [←hj];obtain ⟨b,hb⟩:∃b,b=1000*(j+1):=⟨_,rfl⟩;have hgd:(ps.map (·.1)).getD j o4=p.1:=by rw [List.getD_eq_getElem?_getD,List.getElem?_map,hp];rfl
   have hown:gm 103 j p= .own (b+103) p.2 p.1.claims.length 5:=by simp [gm,hb]
   have hget:=zf (gm 103) ps j p hp;rw [hown] at hget;have hx1:(b+103=b+102)=False:=by simp
   have hx2:(b+102=b+103)=False:=by simp
   have hrl:=k7 (gm 103) ps 0;have htb:tbl 103 38 ps (b+103)=some ⟨p.2,38,5,p.1.claims.length,aA b0 p.1.claims⟩:=by rw [hb];exact q9 (by decide) hp
   have F103:∀c,c<1000->((b+103=c)=False/\(c=b+103)=False):=fun c hc=>⟨by simp;omega,by simp;omega⟩
   have F102:∀c,c<1000->((b+102=c)=False/\(c=b+102)=False):=fun c hc=>⟨by simp;omega,by simp;omega⟩
   refine awN ?_;simp only [F23,seval,h6,hget,F103,htb];repeat refine ob ?_
   refine awT ?_;refine awQ ?_;simp only [F23,seval];refine awN ?_;simp only [F23,seval];repeat refine ob ?_
   have hsame:gc size (ps.map (·.1)) x=ps.map (·.1):=by unfold gc;rw [←hj,hgd,if_pos (by omega)]
   rw [hsame] at hL1;refine ⟨_,(fP (tbl 103 38 ps) [3,4,10,11,12,51,52,53] [49,10,11] (by intro y B h;obtain ⟨q,r,rfl,h2,h3⟩:=Og h;right;simpa [aB,show 1000*(q+1)+103≠49 by omega,show 1000*(q+1)+103≠16 by omega,show 1000*(q+1)+103≠11 by omega,show 1000*(q+1)+103≠10 by omega] using h)).trans (u5 0),list.length-(k+1),by omega,k+1,ps,s,?nq23,by omega,rfl,hL1,hpl,hok,?sq23⟩;case sq23=>(simp only [F23,seval];rfl)
  rw [←hj];obtain ⟨b,hb⟩:∃b,b=1000*(j+1):=⟨_,rfl⟩;have hgd:(ps.map (·.1)).getD j o4=p.1:=by rw [List.getD_eq_getElem?_getD,List.getElem?_map,hp];rfl
  have hown:gm 103 j p= .own (b+103) p.2 p.1.claims.length 5:=by simp [gm,hb]
  have hget:=zf (gm 103) ps j p hp;rw [hown] at hget;have hx1:(b+103=b+102)=False:=by simp
  have hx2:(b+102=b+103)=False:=by simp
  have hrl:=k7 (gm 103) ps 0;have htb:tbl 103 38 ps (b+103)=some ⟨p.2,38,5,p.1.claims.length,aA b0 p.1.claims⟩:=by rw [hb];exact q9 (by decide) hp
  have F103:∀c,c<1000->((b+103=c)=False/\(c=b+103)=False):=fun c hc=>⟨by simp;omega,by simp;omega⟩
  have F102:∀c,c<1000->((b+102=c)=False/\(c=b+102)=False):=fun c hc=>⟨by simp;omega,by simp;omega⟩
  refine awN ?_;simp only [F23,seval,h6,hget,F103,htb];repeat refine ob ?_
  refine awF ?_;refine awK ?_;simp only [F23,seval];have w5:((x.b:Nat):Int).tmod ((size:Int)+1)=((x.b%(size+1):Nat):Int):=JA x.b (size+1);refine awN ?_;simp only [F23,seval,w5];repeat refine ob ?_
  by_cases hh1:((x.b%(size+1):Nat):Int)=(j:Int)
  ·refine awR [] [0,0,0,0,160,160,160,0] ?_;simp only [F23,seval,hh1];refine awT ?_;refine awN ?_;simp only [F23,seval];have w6:((x.c:Nat):Int).tmod 3=((x.c%3:Nat):Int):=JA x.c 3;have w7:IntKind.i64.wrap ((x.c%3:Nat):Int)=((x.c%3:Nat):Int):=wri _ (by omega);have hhold:sk size (x.a%size) x.b= -1:=by unfold sk;rw [if_pos (by rw [←hj];omega)]
   refine C5 b ?_;dsimp only;refine awD (scq [1] (scT 2 14 (.two 1 16 (scq [32,35,36,38,41,43,44] .nil) (scq [35] (.two 1 18 (scq [36,38,41,43,44] .nil) (.two 1 19 (scq [38,41,43,44] .nil) (scq [3,41,43,44] .nil))))))) [0,0,0,0,0,0,0,0,0,0,0,0,0,0,0,0,0,0,0,0,0,0,0] ?_;simp only [F23,seval,hget,w6];repeat refine ob ?_
   refine ⟨?_,?_⟩
   ·refine ⟨_,(Oc x.d hx3.2.2.2),(by first|rfl|simp [aU,aD,al,ax,A1.cells,ab au,ab aN,ab ot]),?_⟩;try simp only [ak,F23,seval,F103,F102,hx1,htb,ai]
    repeat refine ob ?_
    refine awN ?_;simp only [F23,seval];repeat refine ob ?_
    have hadd:gc size (ps.map (·.1)) x=(ps.set j ({p.1 with claims:=p.1.claims++[d6 size x]},nx1+2)).map (·.1):=by rw [List.map_set];unfold gc;rw [←hj,hgd,if_neg (by omega)]
    rw [hadd] at hL1;have hok2:=jY size (ps.map (·.1)) x hok;rw [hadd] at hok2;have hsub:∀q r,(ps.set j ({p.1 with claims:=p.1.claims++[d6 size x]},nx1+2))[q]? =some r->r=({p.1 with claims:=p.1.claims++[d6 size x]},nx1+2)/\q=j∨q≠j/\ps[q]? =some r:=by
     intro q r hq;by_cases hqj:q=j
     ·subst hqj;rw [List.getElem?_set_self hjl] at hq;exact .inl ⟨(Option.some.inj hq).symm,rfl⟩
     rw [List.getElem?_set_ne (fun h=>hqj h.symm)] at hq;exact .inr ⟨hqj,hq⟩
    have hrow:=l6 (gm 103) (gm 103) ps j p ({p.1 with claims:=p.1.claims++[d6 size x]},nx1+2) hp rfl (fun _ _ _ _=>rfl);have hfo:gm 103 j ({p.1 with claims:=p.1.claims++[d6 size x]},nx1+2)= .own (b+103) (nx1+2) (p.1.claims.length+1) 5:=by simp [gm,hb]
    rw [hfo,←xE _ _ _ (by rw [k7];omega)] at hrow;refine ⟨_,(fP (tbl 103 38 (ps.set j ({p.1 with claims:=p.1.claims++[d6 size x]},nx1+2))) [3,4,10,11,12,51,52,53] [49,10,11] (ly (fun q r hq=>?tq30) _)).trans (u5 0),list.length-(k+1),by omega,k+1,ps.set j ({p.1 with claims:=p.1.claims++[d6 size x]},nx1+2),s,nx1+3,by omega,rfl,hL1,by rw [List.length_set];exact hpl,hok2,?sq30⟩;case sq30=>(simp only [F23,seval,hrow];rfl)
    case tq30=>
     rcases hsub q r hq with ⟨rfl,rfl⟩|⟨h1,h2⟩
     ·simp only [←hb,aB,F103,seval,reduceIte,List.length_append,List.length_cons,List.length_nil,Nat.zero_add,a7,b0,d6,hhold,Jd]
     have g1:1000*(q+1)+103≠b+103:=by omega
     have g2:1000*(q+1)+103≠b+102:=by omega
     simp only [aB,g1,g2,if_false,show 1000*(q+1)+103≠49 by omega,show 1000*(q+1)+103≠16 by omega,show 1000*(q+1)+103≠11 by omega,show 1000*(q+1)+103≠10 by omega];exact q9 (by decide) h2
   refine ⟨_,(Oc x.d hx3.2.2.2),(by first|rfl|simp [aU,aD,al,ax,A1.cells,ab au,ab aN,ab ot]),?_⟩;try simp only [ak,F23,seval,F103,F102,hx1,htb,ai]
   refine ⟨?_,?_⟩
   ·repeat refine ob ?_
    refine awN ?_;simp only [F23,seval];repeat refine ob ?_
    have hadd:gc size (ps.map (·.1)) x=(ps.set j ({p.1 with claims:=p.1.claims++[d6 size x]},nx1+2)).map (·.1):=by rw [List.map_set];unfold gc;rw [←hj,hgd,if_neg (by omega)]
    rw [hadd] at hL1;have hok2:=jY size (ps.map (·.1)) x hok;rw [hadd] at hok2;have hsub:∀q r,(ps.set j ({p.1 with claims:=p.1.claims++[d6 size x]},nx1+2))[q]? =some r->r=({p.1 with claims:=p.1.claims++[d6 size x]},nx1+2)/\q=j∨q≠j/\ps[q]? =some r:=by
     intro q r hq;by_cases hqj:q=j
     ·subst hqj;rw [List.getElem?_set_self hjl] at hq;exact .inl ⟨(Option.some.inj hq).symm,rfl⟩
     rw [List.getElem?_set_ne (fun h=>hqj h.symm)] at hq;exact .inr ⟨hqj,hq⟩
    have hrow:=l6 (gm 103) (gm 103) ps j p ({p.1 with claims:=p.1.claims++[d6 size x]},nx1+2) hp rfl (fun _ _ _ _=>rfl);have hfo:gm 103 j ({p.1 with claims:=p.1.claims++[d6 size x]},nx1+2)= .own (b+103) (nx1+2) (p.1.claims.length+1) 5:=by simp [gm,hb]
    rw [hfo,←xE _ _ _ (by rw [k7];omega)] at hrow;refine ⟨_,(fP (tbl 103 38 (ps.set j ({p.1 with claims:=p.1.claims++[d6 size x]},nx1+2))) [3,4,10,11,12,51,52,53] [49,10,11] (ly (fun q r hq=>?tq32) _)).trans (u5 0),list.length-(k+1),by omega,k+1,ps.set j ({p.1 with claims:=p.1.claims++[d6 size x]},nx1+2),s,nx1+3,by omega,rfl,hL1,by rw [List.length_set];exact hpl,hok2,?sq32⟩;case sq32=>(simp only [F23,seval,hrow];rfl)
    case tq32=>
     rcases hsub q r hq with ⟨rfl,rfl⟩|⟨h1,h2⟩
     ·simp only [←hb,aB,F103,seval,reduceIte,List.length_append,List.length_cons,List.length_nil,Nat.zero_add,a7,b0,d6,hhold,Jd]
     have g1:1000*(q+1)+103≠b+103:=by omega
     have g2:1000*(q+1)+103≠b+102:=by omega
     simp only [aB,g1,g2,if_false,show 1000*(q+1)+103≠49 by omega,show 1000*(q+1)+103≠16 by omega,show 1000*(q+1)+103≠11 by omega,show 1000*(q+1)+103≠10 by omega];exact q9 (by decide) h2
   refine ⟨?_,?_⟩
   ·repeat refine ob ?_
    refine awN ?_;simp only [F23,seval];repeat refine ob ?_
    have hadd:gc size (ps.map (·.1)) x=(ps.set j ({p.1 with claims:=p.1.claims++[d6 size x]},nx1+2)).map (·.1):=by rw [List.map_set];unfold gc;rw [←hj,hgd,if_neg (by omega)]
    rw [hadd] at hL1;have hok2:=jY size (ps.map (·.1)) x hok;rw [hadd] at hok2;have hsub:∀q r,(ps.set j ({p.1 with claims:=p.1.claims++[d6 size x]},nx1+2))[q]? =some r->r=({p.1 with claims:=p.1.claims++[d6 size x]},nx1+2)/\q=j∨q≠j/\ps[q]? =some r:=by
     intro q r hq;by_cases hqj:q=j
     ·subst hqj;rw [List.getElem?_set_self hjl] at hq;exact .inl ⟨(Option.some.inj hq).symm,rfl⟩
     rw [List.getElem?_set_ne (fun h=>hqj h.symm)] at hq;exact .inr ⟨hqj,hq⟩
    have hrow:=l6 (gm 103) (gm 103) ps j p ({p.1 with claims:=p.1.claims++[d6 size x]},nx1+2) hp rfl (fun _ _ _ _=>rfl);have hfo:gm 103 j ({p.1 with claims:=p.1.claims++[d6 size x]},nx1+2)= .own (b+103) (nx1+2) (p.1.claims.length+1) 5:=by simp [gm,hb]
    rw [hfo,←xE _ _ _ (by rw [k7];omega)] at hrow;refine ⟨_,(fP (tbl 103 38 (ps.set j ({p.1 with claims:=p.1.claims++[d6 size x]},nx1+2))) [3,4,10,11,12,51,52,53] [49,10,11] (ly (fun q r hq=>?tq34) _)).trans (u5 0),list.length-(k+1),by omega,k+1,ps.set j ({p.1 with claims:=p.1.claims++[d6 size x]},nx1+2),s,nx1+3,by omega,rfl,hL1,by rw [List.length_set];exact hpl,hok2,?sq34⟩;case sq34=>(simp only [F23,seval,hrow];rfl)
    case tq34=>
     rcases hsub q r hq with ⟨rfl,rfl⟩|⟨h1,h2⟩
     ·simp only [←hb,aB,F103,seval,reduceIte,List.length_append,List.length_cons,List.length_nil,Nat.zero_add,a7,b0,d6,hhold,Jd]
     have g1:1000*(q+1)+103≠b+103:=by omega
     have g2:1000*(q+1)+103≠b+102:=by omega
     simp only [aB,g1,g2,if_false,show 1000*(q+1)+103≠49 by omega,show 1000*(q+1)+103≠16 by omega,show 1000*(q+1)+103≠11 by omega,show 1000*(q+1)+103≠10 by omega];exact q9 (by decide) h2
   repeat refine ob ?_
   refine awN ?_;simp only [F23,seval];repeat refine ob ?_
   have hadd:gc size (ps.map (·.1)) x=(ps.set j ({p.1 with claims:=p.1.claims++[d6 size x]},nx1+2)).map (·.1):=by rw [List.map_set];unfold gc;rw [←hj,hgd,if_neg (by omega)]
   rw [hadd] at hL1;have hok2:=jY size (ps.map (·.1)) x hok;rw [hadd] at hok2;have hsub:∀q r,(ps.set j ({p.1 with claims:=p.1.claims++[d6 size x]},nx1+2))[q]? =some r->r=({p.1 with claims:=p.1.claims++[d6 size x]},nx1+2)/\q=j∨q≠j/\ps[q]? =some r:=by
    intro q r hq;by_cases hqj:q=j
    ·subst hqj;rw [List.getElem?_set_self hjl] at hq;exact .inl ⟨(Option.some.inj hq).symm,rfl⟩
    rw [List.getElem?_set_ne (fun h=>hqj h.symm)] at hq;exact .inr ⟨hqj,hq⟩
   have hrow:=l6 (gm 103) (gm 103) ps j p ({p.1 with claims:=p.1.claims++[d6 size x]},nx1+2) hp rfl (fun _ _ _ _=>rfl);have hfo:gm 103 j ({p.1 with claims:=p.1.claims++[d6 size x]},nx1+2)= .own (b+103) (nx1+2) (p.1.claims.length+1) 5:=by simp [gm,hb]
   rw [hfo,←xE _ _ _ (by rw [k7];omega)] at hrow;refine ⟨_,(fP (tbl 103 38 (ps.set j ({p.1 with claims:=p.1.claims++[d6 size x]},nx1+2))) [3,4,10,11,12,51,52,53] [49,10,11] (ly (fun q r hq=>?tq36) _)).trans (u5 0),list.length-(k+1),by omega,k+1,ps.set j ({p.1 with claims:=p.1.claims++[d6 size x]},nx1+2),s,nx1+3,by omega,rfl,hL1,by rw [List.length_set];exact hpl,hok2,?sq36⟩;case sq36=>(simp only [F23,seval,hrow];rfl)
   case tq36=>
    rcases hsub q r hq with ⟨rfl,rfl⟩|⟨h1,h2⟩
    ·simp only [←hb,aB,F103,seval,reduceIte,List.length_append,List.length_cons,List.length_nil,Nat.zero_add,a7,b0,d6,hhold,Jd]
    have g1:1000*(q+1)+103≠b+103:=by omega
    have g2:1000*(q+1)+103≠b+102:=by omega
    simp only [aB,g1,g2,if_false,show 1000*(q+1)+103≠49 by omega,show 1000*(q+1)+103≠16 by omega,show 1000*(q+1)+103≠11 by omega,show 1000*(q+1)+103≠10 by omega];exact q9 (by decide) h2
  by_cases hh2:(size:Int)<=((x.b%(size+1):Nat):Int)
  ·refine awR [] [0,0,0,0,160,160,160,0] ?_;simp only [F23,seval,hh1,hh2];refine awT ?_;refine awN ?_;simp only [F23,seval];have w6:((x.c:Nat):Int).tmod 3=((x.c%3:Nat):Int):=JA x.c 3;have w7:IntKind.i64.wrap ((x.c%3:Nat):Int)=((x.c%3:Nat):Int):=wri _ (by omega);have hhold:sk size (x.a%size) x.b= -1:=by unfold sk;rw [if_pos (by rw [←hj];omega)]
   refine C5 b ?_;dsimp only;refine awD (scq [1] (scT 2 14 (.two 1 16 (scq [32,35,36,38,41,43,44] .nil) (scq [35] (.two 1 18 (scq [36,38,41,43,44] .nil) (.two 1 19 (scq [38,41,43,44] .nil) (scq [3,41,43,44] .nil))))))) [0,0,0,0,0,0,0,0,0,0,0,0,0,0,0,0,0,0,0,0,0,0,0] ?_;simp only [F23,seval,hget,w6];repeat refine ob ?_
   refine ⟨?_,?_⟩
   ·refine ⟨_,(Oc x.d hx3.2.2.2),(by first|rfl|simp [aU,aD,al,ax,A1.cells,ab au,ab aN,ab ot]),?_⟩;try simp only [ak,F23,seval,F103,F102,hx1,htb,ai]
    repeat refine ob ?_
    refine awN ?_;simp only [F23,seval];repeat refine ob ?_
    have hadd:gc size (ps.map (·.1)) x=(ps.set j ({p.1 with claims:=p.1.claims++[d6 size x]},nx1+2)).map (·.1):=by rw [List.map_set];unfold gc;rw [←hj,hgd,if_neg (by omega)]
    rw [hadd] at hL1;have hok2:=jY size (ps.map (·.1)) x hok;rw [hadd] at hok2;have hsub:∀q r,(ps.set j ({p.1 with claims:=p.1.claims++[d6 size x]},nx1+2))[q]? =some r->r=({p.1 with claims:=p.1.claims++[d6 size x]},nx1+2)/\q=j∨q≠j/\ps[q]? =some r:=by
     intro q r hq;by_cases hqj:q=j
     ·subst hqj;rw [List.getElem?_set_self hjl] at hq;exact .inl ⟨(Option.some.inj hq).symm,rfl⟩
     rw [List.getElem?_set_ne (fun h=>hqj h.symm)] at hq;exact .inr ⟨hqj,hq⟩
    have hrow:=l6 (gm 103) (gm 103) ps j p ({p.1 with claims:=p.1.claims++[d6 size x]},nx1+2) hp rfl (fun _ _ _ _=>rfl);have hfo:gm 103 j ({p.1 with claims:=p.1.claims++[d6 size x]},nx1+2)= .own (b+103) (nx1+2) (p.1.claims.length+1) 5:=by simp [gm,hb]
    rw [hfo,←xE _ _ _ (by rw [k7];omega)] at hrow;refine ⟨_,(fP (tbl 103 38 (ps.set j ({p.1 with claims:=p.1.claims++[d6 size x]},nx1+2))) [3,4,10,11,12,51,52,53] [49,10,11] (ly (fun q r hq=>?tq41) _)).trans (u5 0),list.length-(k+1),by omega,k+1,ps.set j ({p.1 with claims:=p.1.claims++[d6 size x]},nx1+2),s,nx1+3,by omega,rfl,hL1,by rw [List.length_set];exact hpl,hok2,?sq41⟩;case sq41=>(simp only [F23,seval,hrow];rfl)
    case tq41=>
     rcases hsub q r hq with ⟨rfl,rfl⟩|⟨h1,h2⟩
     ·simp only [←hb,aB,F103,seval,reduceIte,List.length_append,List.length_cons,List.length_nil,Nat.zero_add,a7,b0,d6,hhold,Jd]
     have g1:1000*(q+1)+103≠b+103:=by omega
     have g2:1000*(q+1)+103≠b+102:=by omega
     simp only [aB,g1,g2,if_false,show 1000*(q+1)+103≠49 by omega,show 1000*(q+1)+103≠16 by omega,show 1000*(q+1)+103≠11 by omega,show 1000*(q+1)+103≠10 by omega];exact q9 (by decide) h2
   refine ⟨_,(Oc x.d hx3.2.2.2),(by first|rfl|simp [aU,aD,al,ax,A1.cells,ab au,ab aN,ab ot]),?_⟩;try simp only [ak,F23,seval,F103,F102,hx1,htb,ai]
   refine ⟨?_,?_⟩
   ·repeat refine ob ?_
    refine awN ?_;simp only [F23,seval];repeat refine ob ?_
    have hadd:gc size (ps.map (·.1)) x=(ps.set j ({p.1 with claims:=p.1.claims++[d6 size x]},nx1+2)).map (·.1):=by rw [List.map_set];unfold gc;rw [←hj,hgd,if_neg (by omega)]
    rw [hadd] at hL1;have hok2:=jY size (ps.map (·.1)) x hok;rw [hadd] at hok2;have hsub:∀q r,(ps.set j ({p.1 with claims:=p.1.claims++[d6 size x]},nx1+2))[q]? =some r->r=({p.1 with claims:=p.1.claims++[d6 size x]},nx1+2)/\q=j∨q≠j/\ps[q]? =some r:=by
     intro q r hq;by_cases hqj:q=j
     ·subst hqj;rw [List.getElem?_set_self hjl] at hq;exact .inl ⟨(Option.some.inj hq).symm,rfl⟩
     rw [List.getElem?_set_ne (fun h=>hqj h.symm)] at hq;exact .inr ⟨hqj,hq⟩
    have hrow:=l6 (gm 103) (gm 103) ps j p ({p.1 with claims:=p.1.claims++[d6 size x]},nx1+2) hp rfl (fun _ _ _ _=>rfl);have hfo:gm 103 j ({p.1 with claims:=p.1.claims++[d6 size x]},nx1+2)= .own (b+103) (nx1+2) (p.1.claims.length+1) 5:=by simp [gm,hb]
    rw [hfo,←xE _ _ _ (by rw [k7];omega)] at hrow;refine ⟨_,(fP (tbl 103 38 (ps.set j ({p.1 with claims:=p.1.claims++[d6 size x]},nx1+2))) [3,4,10,11,12,51,52,53] [49,10,11] (ly (fun q r hq=>?tq43) _)).trans (u5 0),list.length-(k+1),by omega,k+1,ps.set j ({p.1 with claims:=p.1.claims++[d6 size x]},nx1+2),s,nx1+3,by omega,rfl,hL1,by rw [List.length_set];exact hpl,hok2,?sq43⟩;case sq43=>(simp only [F23,seval,hrow];rfl)
    case tq43=>
     rcases hsub q r hq with ⟨rfl,rfl⟩|⟨h1,h2⟩
     ·simp only [←hb,aB,F103,seval,reduceIte,List.length_append,List.length_cons,List.length_nil,Nat.zero_add,a7,b0,d6,hhold,Jd]
     have g1:1000*(q+1)+103≠b+103:=by omega
     have g2:1000*(q+1)+103≠b+102:=by omega
     simp only [aB,g1,g2,if_false,show 1000*(q+1)+103≠49 by omega,show 1000*(q+1)+103≠16 by omega,show 1000*(q+1)+103≠11 by omega,show 1000*(q+1)+103≠10 by omega];exact q9 (by decide) h2
   refine ⟨?_,?_⟩
   ·repeat refine ob ?_
    refine awN ?_;simp only [F23,seval];repeat refine ob ?_
    have hadd:gc size (ps.map (·.1)) x=(ps.set j ({p.1 with claims:=p.1.claims++[d6 size x]},nx1+2)).map (·.1):=by rw [List.map_set];unfold gc;rw [←hj,hgd,if_neg (by omega)]
    rw [hadd] at hL1;have hok2:=jY size (ps.map (·.1)) x hok;rw [hadd] at hok2;have hsub:∀q r,(ps.set j ({p.1 with claims:=p.1.claims++[d6 size x]},nx1+2))[q]? =some r->r=({p.1 with claims:=p.1.claims++[d6 size x]},nx1+2)/\q=j∨q≠j/\ps[q]? =some r:=by
     intro q r hq;by_cases hqj:q=j
     ·subst hqj;rw [List.getElem?_set_self hjl] at hq;exact .inl ⟨(Option.some.inj hq).symm,rfl⟩
     rw [List.getElem?_set_ne (fun h=>hqj h.symm)] at hq;exact .inr ⟨hqj,hq⟩
    have hrow:=l6 (gm 103) (gm 103) ps j p ({p.1 with claims:=p.1.claims++[d6 size x]},nx1+2) hp rfl (fun _ _ _ _=>rfl);have hfo:gm 103 j ({p.1 with claims:=p.1.claims++[d6 size x]},nx1+2)= .own (b+103) (nx1+2) (p.1.claims.length+1) 5:=by simp [gm,hb]
    rw [hfo,←xE _ _ _ (by rw [k7];omega)] at hrow;refine ⟨_,(fP (tbl 103 38 (ps.set j ({p.1 with claims:=p.1.claims++[d6 size x]},nx1+2))) [3,4,10,11,12,51,52,53] [49,10,11] (ly (fun q r hq=>?tq45) _)).trans (u5 0),list.length-(k+1),by omega,k+1,ps.set j ({p.1 with claims:=p.1.claims++[d6 size x]},nx1+2),s,nx1+3,by omega,rfl,hL1,by rw [List.length_set];exact hpl,hok2,?sq45⟩;case sq45=>(simp only [F23,seval,hrow];rfl)
    case tq45=>
     rcases hsub q r hq with ⟨rfl,rfl⟩|⟨h1,h2⟩
     ·simp only [←hb,aB,F103,seval,reduceIte,List.length_append,List.length_cons,List.length_nil,Nat.zero_add,a7,b0,d6,hhold,Jd]
     have g1:1000*(q+1)+103≠b+103:=by omega
     have g2:1000*(q+1)+103≠b+102:=by omega
     simp only [aB,g1,g2,if_false,show 1000*(q+1)+103≠49 by omega,show 1000*(q+1)+103≠16 by omega,show 1000*(q+1)+103≠11 by omega,show 1000*(q+1)+103≠10 by omega];exact q9 (by decide) h2
   repeat refine ob ?_
   refine awN ?_;simp only [F23,seval];repeat refine ob ?_
   have hadd:gc size (ps.map (·.1)) x=(ps.set j ({p.1 with claims:=p.1.claims++[d6 size x]},nx1+2)).map (·.1):=by rw [List.map_set];unfold gc;rw [←hj,hgd,if_neg (by omega)]
   rw [hadd] at hL1;have hok2:=jY size (ps.map (·.1)) x hok;rw [hadd] at hok2;have hsub:∀q r,(ps.set j ({p.1 with claims:=p.1.claims++[d6 size x]},nx1+2))[q]? =some r->r=({p.1 with claims:=p.1.claims++[d6 size x]},nx1+2)/\q=j∨q≠j/\ps[q]? =some r:=by
    intro q r hq;by_cases hqj:q=j
    ·subst hqj;rw [List.getElem?_set_self hjl] at hq;exact .inl ⟨(Option.some.inj hq).symm,rfl⟩
    rw [List.getElem?_set_ne (fun h=>hqj h.symm)] at hq;exact .inr ⟨hqj,hq⟩
   have hrow:=l6 (gm 103) (gm 103) ps j p ({p.1 with claims:=p.1.claims++[d6 size x]},nx1+2) hp rfl (fun _ _ _ _=>rfl);have hfo:gm 103 j ({p.1 with claims:=p.1.claims++[d6 size x]},nx1+2)= .own (b+103) (nx1+2) (p.1.claims.length+1) 5:=by simp [gm,hb]
   rw [hfo,←xE _ _ _ (by rw [k7];omega)] at hrow;refine ⟨_,(fP (tbl 103 38 (ps.set j ({p.1 with claims:=p.1.claims++[d6 size x]},nx1+2))) [3,4,10,11,12,51,52,53] [49,10,11] (ly (fun q r hq=>?tq47) _)).trans (u5 0),list.length-(k+1),by omega,k+1,ps.set j ({p.1 with claims:=p.1.claims++[d6 size x]},nx1+2),s,nx1+3,by omega,rfl,hL1,by rw [List.length_set];exact hpl,hok2,?sq47⟩;case sq47=>(simp only [F23,seval,hrow];rfl)
   case tq47=>
    rcases hsub q r hq with ⟨rfl,rfl⟩|⟨h1,h2⟩
    ·simp only [←hb,aB,F103,seval,reduceIte,List.length_append,List.length_cons,List.length_nil,Nat.zero_add,a7,b0,d6,hhold,Jd]
    have g1:1000*(q+1)+103≠b+103:=by omega
    have g2:1000*(q+1)+103≠b+102:=by omega
    simp only [aB,g1,g2,if_false,show 1000*(q+1)+103≠49 by omega,show 1000*(q+1)+103≠16 by omega,show 1000*(q+1)+103≠11 by omega,show 1000*(q+1)+103≠10 by omega];exact q9 (by decide) h2
  refine awR [] [0,0,0,0,160,160,160,0] ?_;simp only [F23,seval,hh1,hh2];refine awF ?_;refine awK ?_;simp only [F23,seval];have w6:((x.c:Nat):Int).tmod 3=((x.c%3:Nat):Int):=JA x.c 3;have w7:IntKind.i64.wrap ((x.c%3:Nat):Int)=((x.c%3:Nat):Int):=wri _ (by omega);have hhold:sk size (x.a%size) x.b=((x.b%(size+1):Nat):Int):=by unfold sk;rw [if_neg (by rw [←hj];omega)]
  refine C5 b ?_;dsimp only;refine awD (scq [1] (scT 2 14 (.two 1 16 (scq [32,35,36,38,41,43,44] .nil) (scq [35] (.two 1 18 (scq [36,38,41,43,44] .nil) (.two 1 19 (scq [38,41,43,44] .nil) (scq [3,41,43,44] .nil))))))) [0,0,0,0,0,0,0,0,0,0,0,0,0,0,0,0,0,0,0,0,0,0,0] ?_;simp only [F23,seval,hget,w6];repeat refine ob ?_
  refine ⟨?_,?_⟩
  ·refine ⟨_,(Oc x.d hx3.2.2.2),(by first|rfl|simp [aU,aD,al,ax,A1.cells,ab au,ab aN,ab ot]),?_⟩;try simp only [ak,F23,seval,F103,F102,hx1,htb,ai]
   repeat refine ob ?_
   refine awN ?_;simp only [F23,seval];repeat refine ob ?_
   have hadd:gc size (ps.map (·.1)) x=(ps.set j ({p.1 with claims:=p.1.claims++[d6 size x]},nx1+2)).map (·.1):=by rw [List.map_set];unfold gc;rw [←hj,hgd,if_neg (by omega)]
   rw [hadd] at hL1;have hok2:=jY size (ps.map (·.1)) x hok;rw [hadd] at hok2;have hsub:∀q r,(ps.set j ({p.1 with claims:=p.1.claims++[d6 size x]},nx1+2))[q]? =some r->r=({p.1 with claims:=p.1.claims++[d6 size x]},nx1+2)/\q=j∨q≠j/\ps[q]? =some r:=by
    intro q r hq;by_cases hqj:q=j
    ·subst hqj;rw [List.getElem?_set_self hjl] at hq;exact .inl ⟨(Option.some.inj hq).symm,rfl⟩
    rw [List.getElem?_set_ne (fun h=>hqj h.symm)] at hq;exact .inr ⟨hqj,hq⟩
   have hrow:=l6 (gm 103) (gm 103) ps j p ({p.1 with claims:=p.1.claims++[d6 size x]},nx1+2) hp rfl (fun _ _ _ _=>rfl);have hfo:gm 103 j ({p.1 with claims:=p.1.claims++[d6 size x]},nx1+2)= .own (b+103) (nx1+2) (p.1.claims.length+1) 5:=by simp [gm,hb]
   rw [hfo,←xE _ _ _ (by rw [k7];omega)] at hrow;refine ⟨_,(fP (tbl 103 38 (ps.set j ({p.1 with claims:=p.1.claims++[d6 size x]},nx1+2))) [3,4,10,11,12,51,52,53] [49,10,11] (ly (fun q r hq=>?tq51) _)).trans (u5 0),list.length-(k+1),by omega,k+1,ps.set j ({p.1 with claims:=p.1.claims++[d6 size x]},nx1+2),s,nx1+3,by omega,rfl,hL1,by rw [List.length_set];exact hpl,hok2,?sq51⟩;case sq51=>(simp only [F23,seval,hrow];rfl)
   case tq51=>
    rcases hsub q r hq with ⟨rfl,rfl⟩|⟨h1,h2⟩
    ·simp only [←hb,aB,F103,seval,reduceIte,List.length_append,List.length_cons,List.length_nil,Nat.zero_add,a7,b0,d6,hhold,Jd]
    have g1:1000*(q+1)+103≠b+103:=by omega
    have g2:1000*(q+1)+103≠b+102:=by omega
    simp only [aB,g1,g2,if_false,show 1000*(q+1)+103≠49 by omega,show 1000*(q+1)+103≠16 by omega,show 1000*(q+1)+103≠11 by omega,show 1000*(q+1)+103≠10 by omega];exact q9 (by decide) h2
  refine ⟨_,(Oc x.d hx3.2.2.2),(by first|rfl|simp [aU,aD,al,ax,A1.cells,ab au,ab aN,ab ot]),?_⟩;try simp only [ak,F23,seval,F103,F102,hx1,htb,ai]
  refine ⟨?_,?_⟩
  ·repeat refine ob ?_
   refine awN ?_;simp only [F23,seval];repeat refine ob ?_
   have hadd:gc size (ps.map (·.1)) x=(ps.set j ({p.1 with claims:=p.1.claims++[d6 size x]},nx1+2)).map (·.1):=by rw [List.map_set];unfold gc;rw [←hj,hgd,if_neg (by omega)]
   rw [hadd] at hL1;have hok2:=jY size (ps.map (·.1)) x hok;rw [hadd] at hok2;have hsub:∀q r,(ps.set j ({p.1 with claims:=p.1.claims++[d6 size x]},nx1+2))[q]? =some r->r=({p.1 with claims:=p.1.claims++[d6 size x]},nx1+2)/\q=j∨q≠j/\ps[q]? =some r:=by
    intro q r hq;by_cases hqj:q=j
    ·subst hqj;rw [List.getElem?_set_self hjl] at hq;exact .inl ⟨(Option.some.inj hq).symm,rfl⟩
    rw [List.getElem?_set_ne (fun h=>hqj h.symm)] at hq;exact .inr ⟨hqj,hq⟩
   have hrow:=l6 (gm 103) (gm 103) ps j p ({p.1 with claims:=p.1.claims++[d6 size x]},nx1+2) hp rfl (fun _ _ _ _=>rfl);have hfo:gm 103 j ({p.1 with claims:=p.1.claims++[d6 size x]},nx1+2)= .own (b+103) (nx1+2) (p.1.claims.length+1) 5:=by simp [gm,hb]
   rw [hfo,←xE _ _ _ (by rw [k7];omega)] at hrow;refine ⟨_,(fP (tbl 103 38 (ps.set j ({p.1 with claims:=p.1.claims++[d6 size x]},nx1+2))) [3,4,10,11,12,51,52,53] [49,10,11] (ly (fun q r hq=>?tq53) _)).trans (u5 0),list.length-(k+1),by omega,k+1,ps.set j ({p.1 with claims:=p.1.claims++[d6 size x]},nx1+2),s,nx1+3,by omega,rfl,hL1,by rw [List.length_set];exact hpl,hok2,?sq53⟩;case sq53=>(simp only [F23,seval,hrow];rfl)
   case tq53=>
    rcases hsub q r hq with ⟨rfl,rfl⟩|⟨h1,h2⟩
    ·simp only [←hb,aB,F103,seval,reduceIte,List.length_append,List.length_cons,List.length_nil,Nat.zero_add,a7,b0,d6,hhold,Jd]
    have g1:1000*(q+1)+103≠b+103:=by omega
    have g2:1000*(q+1)+103≠b+102:=by omega
    simp only [aB,g1,g2,if_false,show 1000*(q+1)+103≠49 by omega,show 1000*(q+1)+103≠16 by omega,show 1000*(q+1)+103≠11 by omega,show 1000*(q+1)+103≠10 by omega];exact q9 (by decide) h2
  refine ⟨?_,?_⟩
  ·repeat refine ob ?_
   refine awN ?_;simp only [F23,seval];repeat refine ob ?_
   have hadd:gc size (ps.map (·.1)) x=(ps.set j ({p.1 with claims:=p.1.claims++[d6 size x]},nx1+2)).map (·.1):=by rw [List.map_set];unfold gc;rw [←hj,hgd,if_neg (by omega)]
   rw [hadd] at hL1;have hok2:=jY size (ps.map (·.1)) x hok;rw [hadd] at hok2;have hsub:∀q r,(ps.set j ({p.1 with claims:=p.1.claims++[d6 size x]},nx1+2))[q]? =some r->r=({p.1 with claims:=p.1.claims++[d6 size x]},nx1+2)/\q=j∨q≠j/\ps[q]? =some r:=by
    intro q r hq;by_cases hqj:q=j
    ·subst hqj;rw [List.getElem?_set_self hjl] at hq;exact .inl ⟨(Option.some.inj hq).symm,rfl⟩
    rw [List.getElem?_set_ne (fun h=>hqj h.symm)] at hq;exact .inr ⟨hqj,hq⟩
   have hrow:=l6 (gm 103) (gm 103) ps j p ({p.1 with claims:=p.1.claims++[d6 size x]},nx1+2) hp rfl (fun _ _ _ _=>rfl);have hfo:gm 103 j ({p.1 with claims:=p.1.claims++[d6 size x]},nx1+2)= .own (b+103) (nx1+2) (p.1.claims.length+1) 5:=by simp [gm,hb]
   rw [hfo,←xE _ _ _ (by rw [k7];omega)] at hrow;refine ⟨_,(fP (tbl 103 38 (ps.set j ({p.1 with claims:=p.1.claims++[d6 size x]},nx1+2))) [3,4,10,11,12,51,52,53] [49,10,11] (ly (fun q r hq=>?tq55) _)).trans (u5 0),list.length-(k+1),by omega,k+1,ps.set j ({p.1 with claims:=p.1.claims++[d6 size x]},nx1+2),s,nx1+3,by omega,rfl,hL1,by rw [List.length_set];exact hpl,hok2,?sq55⟩;case sq55=>(simp only [F23,seval,hrow];rfl)
   case tq55=>
    rcases hsub q r hq with ⟨rfl,rfl⟩|⟨h1,h2⟩
    ·simp only [←hb,aB,F103,seval,reduceIte,List.length_append,List.length_cons,List.length_nil,Nat.zero_add,a7,b0,d6,hhold,Jd]
    have g1:1000*(q+1)+103≠b+103:=by omega
    have g2:1000*(q+1)+103≠b+102:=by omega
    simp only [aB,g1,g2,if_false,show 1000*(q+1)+103≠49 by omega,show 1000*(q+1)+103≠16 by omega,show 1000*(q+1)+103≠11 by omega,show 1000*(q+1)+103≠10 by omega];exact q9 (by decide) h2
  repeat refine ob ?_
  refine awN ?_;simp only [F23,seval];repeat refine ob ?_
  have hadd:gc size (ps.map (·.1)) x=(ps.set j ({p.1 with claims:=p.1.claims++[d6 size x]},nx1+2)).map (·.1):=by rw [List.map_set];unfold gc;rw [←hj,hgd,if_neg (by omega)]
  rw [hadd] at hL1;have hok2:=jY size (ps.map (·.1)) x hok;rw [hadd] at hok2;have hsub:∀q r,(ps.set j ({p.1 with claims:=p.1.claims++[d6 size x]},nx1+2))[q]? =some r->r=({p.1 with claims:=p.1.claims++[d6 size x]},nx1+2)/\q=j∨q≠j/\ps[q]? =some r:=by
   intro q r hq;by_cases hqj:q=j
   ·subst hqj;rw [List.getElem?_set_self hjl] at hq;exact .inl ⟨(Option.some.inj hq).symm,rfl⟩
   rw [List.getElem?_set_ne (fun h=>hqj h.symm)] at hq;exact .inr ⟨hqj,hq⟩
  have hrow:=l6 (gm 103) (gm 103) ps j p ({p.1 with claims:=p.1.claims++[d6 size x]},nx1+2) hp rfl (fun _ _ _ _=>rfl);have hfo:gm 103 j ({p.1 with claims:=p.1.claims++[d6 size x]},nx1+2)= .own (b+103) (nx1+2) (p.1.claims.length+1) 5:=by simp [gm,hb]
  rw [hfo,←xE _ _ _ (by rw [k7];omega)] at hrow;refine ⟨_,(fP (tbl 103 38 (ps.set j ({p.1 with claims:=p.1.claims++[d6 size x]},nx1+2))) [3,4,10,11,12,51,52,53] [49,10,11] (ly (fun q r hq=>?tq57) _)).trans (u5 0),list.length-(k+1),by omega,k+1,ps.set j ({p.1 with claims:=p.1.claims++[d6 size x]},nx1+2),s,nx1+3,by omega,rfl,hL1,by rw [List.length_set];exact hpl,hok2,?sq57⟩;case sq57=>(simp only [F23,seval,hrow];rfl)
  case tq57=>
   rcases hsub q r hq with ⟨rfl,rfl⟩|⟨h1,h2⟩
   ·simp only [←hb,aB,F103,seval,reduceIte,List.length_append,List.length_cons,List.length_nil,Nat.zero_add,a7,b0,d6,hhold,Jd]
   have g1:1000*(q+1)+103≠b+103:=by omega
   have g2:1000*(q+1)+103≠b+102:=by omega
   simp only [aB,g1,g2,if_false,show 1000*(q+1)+103≠49 by omega,show 1000*(q+1)+103≠16 by omega,show 1000*(q+1)+103≠11 by omega,show 1000*(q+1)+103≠10 by omega];exact q9 (by decide) h2
 refine awN ?_;simp only [F23,seval,hlt1];refine awF ?_;refine awQ ?_;simp only [F23,seval];refine awN ?_;simp only [F23,seval];obtain rfl:k=list.length:=by omega
 rw [List.drop_length,List.foldl_nil] at hL1;refine eC (tbl 103 38 ps) [4,10,11,12,107,108,109] [49,10,11] (by intro y B h;obtain ⟨q,r,rfl,h2,h3⟩:=Og h;right;simpa [aB,show 1000*(q+1)+103≠49 by omega,show 1000*(q+1)+103≠16 by omega,show 1000*(q+1)+103≠11 by omega,show 1000*(q+1)+103≠10 by omega] using h) ?_;simp only [F23,seval];refine cm (M6 103 38 36 (by decide) 49 [(10,⟨0,28,2,1,[.lit (.slice none 0 0),.lit (.slice none 0 0)]⟩),(11,⟨1,28,2,1,[.own 49 s size 5,.lit (.slice none 0 0)]⟩)] (by simp) (by decide) size nx1 ps) ?_;refine cm (dz 49 (aA aJ (ps.map (·.1))) (by rfl) (by show (5:Nat)≠0;decide) (by rw [bo i4,List.length_map];exact (k7 fSh ps 0).symm) (KJ ps 0 (fun p hp=>(hok p.1 (List.mem_map.2 ⟨p,hp,rfl⟩)).2))) ?_;have hpl2:(ps.map (·.1)).length=size:=by rw [List.length_map];exact hpl
 generalize ps.map (·.1)=es0 at *
 refine aQ [4,10,11,12,107,108,109] [49,10,11] ?_;try simp only [ak,F23,seval]
 repeat' first|apply awS|apply awB
 refine aM (fun n st=>∃k es s nx,k<=pools.length/\n=pools.length-k/\(pools.drop k).foldl (Oi size) es=pools.foldl (Oi size) es0/\es.length=size/\(∀e∈es,okB e)/\st=⟨mkT [(4,.val (.one (.sh 3 debts.length (aA cN3 debts)))),(10,.val (.one (.ptr 10 0 0))),(11,.val (.one (.ptr 11 1 0))),(12,one (.int .i64 (size:Int))),(107,.val (.one (.sh 3 pools.length (aA cN3 pools)))),(108,one (.int .i64 pools.length)),(109,one (.int .i64 k))],mkH [(49,⟨s,36,5,size,aA aJ es⟩),(10,⟨0,28,2,1,[.lit (.slice none 0 0),.lit (.slice none 0 0)]⟩),(11,⟨1,28,2,1,[.own 49 s size 5,.lit (.slice none 0 0)]⟩)],nx,0⟩) (pools.length) ⟨0,es0,_,_,by omega,by omega,rfl,hpl2,fun e he=>⟨(hok e he).1,by rw [(hok e he).2];simp,by rw [(hok e he).2];simp⟩,rfl⟩ ?_;rintro n2 st ⟨k,es,s,nx2,hk,rfl,hL2,hel,hoB,rfl⟩;by_cases hlt2:(k:Int)<(pools.length:Int)
 ·refine awN ?_;simp only [F23,seval,hlt2];refine awT ?_;refine awK ?_;simp only [F23,seval];have hltn:k<pools.length:=by omega
  have hp3:=hpo _ (List.getElem_mem hltn);have hatl:=aO Kn pools k hltn;rw [List.drop_eq_getElem_cons hltn,List.foldl_cons] at hL2;generalize pools[k]=p at *
  have hjl:p.a%size<es.length:=by rw [hel];exact Nat.mod_lt _ (by omega)
  have hw4:=JA p.a size;refine awN ?_;simp only [F23,seval,hlt2,hatl,cN3];repeat refine ob ?_
  refine awN ?_;simp only [F23,seval,hw4];repeat refine ob ?_
  obtain ⟨j,hj⟩:∃j,p.a%size=j:=⟨_,rfl⟩;rw [hj] at hjl ⊢;obtain ⟨e,hee⟩:∃e,es[j]=e:=⟨_,rfl⟩;have hge:es.getD (p.a%size) o4=e:=by rw [hj,List.getD_eq_getElem?_getD,List.getElem?_eq_getElem hjl,hee];rfl
  have hokj:okB e:=hee▸hoB _ (List.getElem_mem hjl);have hate:(aA aJ es).drop (j*5)=aJ e++aA aJ (es.drop (j+1)):=by have:=aO i4 es j hjl;rwa [hee] at this
  have hset:spl (aA aJ es) (j*5+4) [.sh 1 (e.agrs++[bgN e p]).length (aA bu (e.agrs++[bgN e p]))]=aA aJ (es.set j ⟨e.cash,e.claims,e.agrs++[bgN e p]⟩):=zl i4 es j 4 _ _ hjl (by simp) (by rw [hee];simp [aJ,spl]);have hag:Oi size es p=if ((e.agrs.length:Int)<2) then es.set j ⟨e.cash,e.claims,e.agrs++[bgN e p]⟩ else es:=by unfold Oi;rw [hge,hj]
  have hfl:=bo i4 es;have hg4:(aA aJ es)[j*5+4]? =some (.sh 1 e.agrs.length (aA bu e.agrs)):=by rw [←List.getElem?_drop,hate];rfl
  by_cases h2:(e.agrs.length:Int)<2
  ·refine awN ?_;simp only [F23,seval,h2,hg4];repeat refine ob ?_
   refine awT ?_;have hagr:e.claims.length<=30/\e.agrs.length<=1000000000000/\∀a∈e.agrs,a.length<=1000000000000/\∀t∈a,t.length<=1000000000000:=⟨by have:=hokj.1;omega,by have:=hokj.2.1;omega,fun a ha=>⟨by have:=(hokj.2.2 a ha).1;omega,fun t ht=>by have:=(hokj.2.2 a ha).2 t ht;omega⟩⟩;refine awD (scT 0 9 (scq [18,21,23,24] .nil)) [0,0,0,0,0,0,0,0,0,0,0,0,0] ?_;simp only [F23,seval,hate,aJ,ab ao,ab au];repeat refine ob ?_
   refine ⟨_,(Na e p hp3 hagr.1 hagr.2.1 hagr.2.2),(by first|rfl|simp [al,ax,ab au]),?_⟩;try simp only [ak,F23,seval]
   repeat refine ob ?_
   refine awN ?_;simp only [F23,seval];repeat refine ob ?_
   have hnew:=JO size es p hoB;have hnl:=Ol size es p;rw [hag,if_pos h2] at hL2 hnew hnl;refine ⟨_,aI [4,10,11,12,107,108,109] [49,10,11],pools.length-(k+1),by omega,k+1,(es.set j ⟨e.cash,e.claims,e.agrs++[bgN e p]⟩),s,?nq66,by omega,rfl,hL2,by rw [hnl];exact hel,hnew,?sq66⟩;case sq66=>(simp only [F23,seval,hset];rfl)
  refine awN ?_;simp only [F23,seval,h2,hg4];repeat refine ob ?_
  refine awF ?_;refine awK ?_;simp only [F23,seval];refine awN ?_;simp only [F23,seval];repeat refine ob ?_
  have hnew:=JO size es p hoB;have hnl:=Ol size es p;rw [hag,if_neg h2] at hL2 hnew hnl;refine ⟨_,aI [4,10,11,12,107,108,109] [49,10,11],pools.length-(k+1),by omega,k+1,es,s,?nq69,by omega,rfl,hL2,by rw [hnl];exact hel,hnew,?sq69⟩;case sq69=>(simp only [F23,seval];rfl)
 refine awN ?_;simp only [F23,seval,hlt2];refine awF ?_;refine awQ ?_;simp only [F23,seval];refine awN ?_;simp only [F23,seval];obtain rfl:k=pools.length:=by omega
 rw [List.drop_length,List.foldl_nil] at hL2;refine dp 49 11 0 (by rfl) (by rfl) (by rfl) (by decide) (by show (5:Nat)≠0;decide) (by show (2:Nat)≠0;decide) rfl ?_;refine cm (dz 11 (yk ⟨es,[]⟩) (by rfl) (by show (2:Nat)≠0;decide) (by rfl) (fun κ vs h=>?_)) ?_
 ·obtain ⟨v1,vs1,rfl,d1,h⟩:=cv h;obtain ⟨v2,vs2,rfl,d2,h⟩:=cv h;exact ⟨hel.symm▸d1,m5 4 d2,h⟩
 refine aQ [10,11,12,139,140,141] [10,11] ?_;try simp only [ak,F23,seval]
 repeat' first|apply awS|apply awB
 refine aM (fun n st=>∃k ds nx,k<=debts.length/\n=debts.length-k/\(debts.drop k).foldl (On es) ds=debts.foldl (On es) []/\ds.length<=3/\(∀x∈ds,x.legs.length<=4)/\st=⟨mkT [(10,.val (.one (.ptr 10 0 0))),(11,.val (.one (.ptr 11 1 0))),(12,one (.int .i64 (size:Int))),(139,.val (.one (.sh 3 debts.length (aA cN3 debts)))),(140,one (.int .i64 debts.length)),(141,one (.int .i64 k))],mkH [(10,⟨0,28,2,1,[.lit (.slice none 0 0),.lit (.slice none 0 0)]⟩),(11,⟨1,28,2,1,yk ⟨es,ds⟩⟩)],nx,0⟩) (debts.length) ⟨0,[],_,by omega,by omega,rfl,by simp,by simp,rfl⟩ ?_;rintro n3 st ⟨k,ds,nx3,hk,rfl,hL3,hdn,hdl,rfl⟩;by_cases hlt3:(k:Int)<(debts.length:Int)
 ·refine awN ?_;simp only [F23,seval,hlt3];refine awT ?_;refine awK ?_;simp only [F23,seval];have hltn:k<debts.length:=by omega
  have hd3:=hdo _ (List.getElem_mem hltn);have hatl:=aO Kn debts k hltn;rw [List.drop_eq_getElem_cons hltn,List.foldl_cons] at hL3;generalize debts[k]=d at *
  refine awN ?_;simp only [F23,seval,hlt3,hatl,cN3];repeat refine ob ?_
  by_cases h3:(ds.length:Int)<3
  ·refine awN ?_;simp only [F23,seval,h3,yk];refine awT ?_;refine awN ?_;simp only [F23,seval,ab ot,ab aN];refine ⟨_,(NU ⟨es,ds⟩ d hd3 (by show es.length<=1000;omega) (fun e he=>by have:=(hoB e he).1;omega) (by show ds.length<=1000000000000;omega) (fun x hx=>by have:=hdl x hx;omega)),(by first|rfl|simp [al,ax,ab aN]),?_⟩;try simp only [ak,F23,seval]
   refine awN ?_;simp only [F23,seval];repeat refine ob ?_
   have hnew:=KK es ds d hdl hdn;have hag:On es ds d=ds++[owN ⟨es,ds⟩ d]:=by unfold On;rw [if_pos h3]
   rw [hag] at hL3 hnew;refine ⟨_,aI [10,11,12,139,140,141] [10,11],debts.length-(k+1),by omega,k+1,(ds++[owN ⟨es,ds⟩ d]),?nq77,by omega,rfl,hL3,hnew.2,hnew.1,?sq77⟩;case sq77=>(simp only [F23,seval];rfl)
  refine awN ?_;simp only [F23,seval,h3,yk];refine awF ?_;refine awK ?_;simp only [F23,seval];refine awN ?_;simp only [F23,seval];repeat refine ob ?_
  have hnew:=KK es ds d hdl hdn;have hag:On es ds d=ds:=by unfold On;rw [if_neg h3]
  rw [hag] at hL3 hnew;refine ⟨_,aI [10,11,12,139,140,141] [10,11],debts.length-(k+1),by omega,k+1,ds,?nq80,by omega,rfl,hL3,hnew.2,hnew.1,?sq80⟩;case sq80=>(simp only [F23,seval];rfl)
 refine awN ?_;simp only [F23,seval,hlt3];refine awF ?_;refine awQ ?_;simp only [F23,seval];refine awN ?_;simp only [F23,seval,yk];rw [List.drop_eq_nil_of_le (by omega),List.foldl_nil] at hL3;refine awX ?_;have hE:JC n cash list pools=es:=by unfold JC;rw [hsz,←hL1];exact hL2.symm
 simp only [F23,seval,ab ot,ab aN,Kj,hE,←hL3];try simp [al,ax,ab ot,ab aN]
theorem fS (n:Nat) (h:n<256):qB 1 (((n:Nat):Int):Rat):=⟨by simp;omega,by simp⟩
theorem yl {α:Type} {Pr:GEst->Prop} (f:List GEst->α->List GEst) (hf:∀es x,(∀e∈es,Pr e)->∀e∈f es x,Pr e):∀(l:List α) (es:List GEst),(∀e∈es,Pr e)->∀e∈l.foldl f es,Pr e
 |[],_,h=>h
 |x::l,es,h=>yl f hf l (f es x) (hf es x h)
theorem Jg {α:Type} (f:List GEst->α->List GEst) (hf:∀es x,(f es x).length=es.length):∀(l:List α) (es:List GEst),(l.foldl f es).length=es.length
 |[],_=>rfl
 |x::l,es=>(Jg f hf l (f es x)).trans (hf es x)
theorem Mt (n:Nat) (cash:List Nat) (list:List N4) (pools:List N3):(JC n cash list pools).length=1+n%4:=by
 unfold JC;rw [Jg _ (Ol _),Jg _ (JD _)];simp
theorem bV {κ:Kx} {vs:List Value} {a:A1} {l:List A1} (h:dh κ vs (a::l)):∃v vs',vs=v::vs'/\bl κ v a/\dh κ vs' l:=by
 cases vs with
 |nil=>exact h.elim
 |cons v vs=>exact ⟨v,vs,rfl,h.1,h.2⟩
section
variable {e : En} {H : Hp} {nx : Nat} {σ : Nat → Value} {w : World}
theorem eS:∀b,(kx e H nx σ w).S b->(fd w).S b/\(fd w).w.heap[b]? =(kx e H nx σ w).w.heap[b]? :=fun b hb=>⟨oJ hb.2.1,rfl⟩
theorem kj (hW:RW e H nx σ w) {v:Value} {nm s n sz:Nat} {B:Blk} (hd:den (kx e H nx σ w) v (.own nm s n sz)) (hB:H nm=some B) (hs:B.st=s) (hsz:B.sz≠0) {cs':List C}
  (hc:∀xs,denVs (kx e H nx σ w) xs B.cs->denVs (fd w) xs cs'):den (fd w) v (.sh sz n cs'):=C9 hW hB hsz hs hd hc
end
end Go.Proofs.YtokmkopihhnggaaGreatDoor
