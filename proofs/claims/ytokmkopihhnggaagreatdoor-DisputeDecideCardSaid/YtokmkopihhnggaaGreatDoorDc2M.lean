/- Disputes: Check on both sides; walked by the abstract machine. -/
import Derived.Test.YtokmkopihhnggaaGreatDoorFewM
import Derived.Test.YtokmkopihhnggaaGreatDoorLawM
import Derived.Test.YtokmkopihhnggaaGreatDoorVal1M
set_option linter.unusedVariables false
set_option maxHeartbeats 4000000
set_option maxRecDepth 100000
set_option linter.unusedSimpArgs false
set_option linter.defProp false
namespace Go.Proofs.YtokmkopihhnggaaGreatDoor
open Go Go.RowKit Go.Proofs.Tryz
theorem Jl (a b:Leg):DY prog 44 [.int .i64 a.1,.int .i64 a.2] [.int .i64 b.1,.int .i64 b.2]:=fun w=>⟨by
 have h1:=J2 a b w;have h2:=zb a b;rw [←h2] at h1;exact h1,by kernel_rfl⟩
theorem Jm (a b:Leg):jn [.int .i64 a.1,.int .i64 a.2] [.int .i64 b.1,.int .i64 b.2]=decide (a=b):=zb a b
def F46:=And.intro zS (And.intro Lf (And.intro CI (And.intro CJ (And.intro I2 (And.intro tw (And.intro tz (And.intro vi (A0))))))))
theorem F47:type_of%F46:=F46
theorem Ml (g:GGrp) (l:List GDisp) (hg:Lo g) (hl:zg l):aR prog 60 [.agg (am g),.one (.sh 3 l.length (aA de l))] (one (.int .i64 (dcS (kR g) g l))):=by
 have hl1:=hl.1;refine aP func60 rfl (by decide) (N:=46) rfl (by simp) (R:=[.tmp 4]) rfl fun en k0=>?_
 refine awN ?_;simp only [F47,seval,am];repeat refine ob ?_
 have hG:=Mh g hg;refine awN ?_;simp only [F47,seval,am,ab b5,ab aN];repeat refine ob ?_
 refine ⟨_,hG,(by first|rfl|simp [aU,aD,al,ax,A1.cells,ab b5]),?_⟩;try simp only [ak,F47,seval,am,ab b5,ab aN]
 repeat refine ob ?_
 by_cases hg0:kR g=0
 ·skip;refine awN ?_;simp only [F47,seval,am,hg0];repeat refine ob ?_
  refine awF ?_;refine awK ?_;simp only [F47,seval];by_cases h8:(8:Int)<(l.length:Int)
  ·skip;refine awN ?_;simp only [F47,seval,am,hg0,h8];repeat refine ob ?_
   refine awT ?_;refine awN ?_;simp only [F47,seval,am,hg0,h8];repeat refine ob ?_
   refine awX ?_;(first|(simp only [F47,seval,am,dcS,j2,hg0,h8];done)|(simp only [F47,seval,am];first|(simp [dcS,j2,hg0,h8];done)))
  skip;refine awN ?_;simp only [F47,seval,am,hg0,h8];repeat refine ob ?_
  refine awF ?_;refine awK ?_;simp only [F47,seval];refine awN ?_;simp only [F47,seval,am,hg0,h8];repeat refine ob ?_
  refine awN ?_;simp only [F47,seval,am,hg0,h8];repeat refine ob ?_
  refine aQ [1,2,4,6,19,20,21] [2,18] ?_;try simp only [ak,F47,seval,am,hg0,h8,xP,CO,j1]
  repeat' first|apply awS|apply awB
  refine aM (fun n st=>∃i0 T nx,i0<=l.length/\n=l.length-i0/\dkL g T (l.drop i0)=dkL g [] l/\st=⟨mkT [(1,.val (.one (.sh 3 l.length (aA de l)))),(2,.val (.one (.ptr 2 0 0))),(4,one (.int .i64 0)),(6,.val (.one (.own 18 1 0 0))),(19,.val (.one (.sh 3 l.length (aA de l)))),(20,one (.int .i64 l.length)),(21,one (.int .i64 i0))],mkH [(2,⟨0,28,2,1,am g⟩),(18,xP 1 T)],nx,0⟩) (l.length) ⟨0,[],_,by omega,by omega,by rfl,rfl⟩ ?_;rintro n0 st ⟨i0,T,nx0,hk0,rfl,hL0,rfl⟩;by_cases hlt0:i0<l.length
  ·skip;have hI0:(i0:Int)<(l.length:Int):=by omega
   have hat0:=aO gB l i0 hlt0;try rw [Nat.mul_one] at hat0
   rw [List.drop_eq_getElem_cons hlt0] at hL0;have hd:=hl.2 _ (List.getElem_mem hlt0);generalize l[i0]=d at *
   simp only [dkL] at hL0;refine awN ?_;simp only [F47,seval,am,hg0,h8,hI0,hat0];repeat refine ob ?_
   refine awT ?_;refine awK ?_;simp only [F47,seval];refine awN ?_;simp only [F47,seval,am,hg0,h8,hI0,hat0,de];repeat refine ob ?_
   by_cases hx:exB g d.est d.cl=true
   ·skip;have hX:aR prog 110 [.agg (am g),.agg [.lit (.int .i64 d.est),.lit (.int .i64 d.cl)]] (one (.bool (exB g d.est d.cl))):=J5 g (j1 d);refine awN ?_;simp only [F47,seval,am,hg0,h8,hI0,hat0,hx,de,ab b5,ab aN];repeat refine ob ?_
    refine ⟨_,hX,(by first|rfl|simp [aU,aD,al,ax,A1.cells,ab b5]),?_⟩;try simp only [ak,F47,seval,am,hg0,h8,hI0,hat0,hx,de,ab b5,ab aN]
    repeat refine ob ?_
    refine awF ?_;refine awK ?_;simp only [F47,seval];by_cases hm:j1 d∈T
    ·skip;have hmg:=Lm (j1 d) T hm;simp only [j1] at hmg;refine awN ?_;simp only [F47,seval,am,hg0,h8,hI0,hat0,hx,hm,de,hmg,xP,Option.getD_some,Option.getD_none];repeat refine ob ?_
     refine ⟨Jr (j1 d) T,?_⟩;repeat refine ob ?_
     refine awT ?_;refine awN ?_;simp only [F47,seval,am,hg0,h8,hI0,hat0,hx,hm];repeat refine ob ?_
     refine awX ?_;(first|(simp only [F47,seval,am,dcS,j2,hg0,h8,hI0,hat0,hx,hm,←hL0];done)|(simp only [F47,seval,am];first|(simp [dcS,j2,hg0,h8,hI0,hat0,hx,hm,←hL0];done)|(simp [dcS,j2,hg0,h8,hI0,hat0,hx,hm];done)|(rw [←hL0];simp [dcS,j2,hg0,h8,hI0,hat0,hx,hm];done)))
    skip;have hmg:=KD (j1 d) T hm;simp only [j1] at hmg;refine awN ?_;simp only [F47,seval,am,hg0,h8,hI0,hat0,hx,hm,de,hmg,xP,Option.getD_some,Option.getD_none];repeat refine ob ?_
    refine ⟨Jr (j1 d) T,?_⟩;repeat refine ob ?_
    refine awF ?_;refine awK ?_;simp only [F47,seval];have hmp:=KE (j1 d) T hm;simp only [j1] at hmp;refine awN ?_;simp only [F47,seval,am,hg0,h8,hI0,hat0,hx,hm,de,hmp,xP];repeat refine ob ?_
    refine ⟨Jr (j1 d) T,?_⟩;repeat refine ob ?_
    refine awN ?_;simp only [F47,seval,am,hg0,h8,hI0,hat0,hx,hm,de,ab ld];repeat refine ob ?_
    refine ⟨_,(M8 d hd),(by first|rfl|simp [aU,aD,al,ax,A1.cells,ab b5]),?_⟩;try simp only [ak,F47,seval,am,hg0,h8,hI0,hat0,hx,hm,de,ab ld]
    repeat refine ob ?_
    by_cases ho:opE d.opts=0
    ·skip;refine awN ?_;simp only [F47,seval,am,hg0,h8,hI0,hat0,hx,hm,ho];repeat refine ob ?_
     refine awF ?_;refine awK ?_;simp only [F47,seval];refine awN ?_;simp only [F47,seval,am,hg0,h8,hI0,hat0,hx,hm,ho];repeat refine ob ?_
     repeat refine ob ?_
     refine ⟨_,aI [1,2,4,6,19,20,21] [2,18],l.length-(i0+1),by omega,i0+1,(T++[j1 d]),?a20_nx,by omega,rfl,?i20_0,?st20⟩;case st20=>(simp only [F47,seval,xP,CO,j1,am,hg0,h8,hI0,hat0,hx,hm,ho];first|rfl|(simp [xP,CO,j1,hg0,h8,hI0,hat0,hx,hm,ho,Nat.add_mul];done))
     case i20_0=>(rw [←hL0];simp [j2,hx,hm,ho])
    skip;refine awN ?_;simp only [F47,seval,am,hg0,h8,hI0,hat0,hx,hm,ho];repeat refine ob ?_
    refine awT ?_;refine awN ?_;simp only [F47,seval,am,hg0,h8,hI0,hat0,hx,hm,ho];repeat refine ob ?_
    refine awX ?_;(first|(simp only [F47,seval,am,dcS,j2,hg0,h8,hI0,hat0,hx,hm,ho,←hL0];done)|(simp only [F47,seval,am];first|(simp [dcS,j2,hg0,h8,hI0,hat0,hx,hm,ho,←hL0];done)|(simp [dcS,j2,hg0,h8,hI0,hat0,hx,hm,ho];done)|(rw [←hL0];simp [dcS,j2,hg0,h8,hI0,hat0,hx,hm,ho];done)))
   skip;have hX:aR prog 110 [.agg (am g),.agg [.lit (.int .i64 d.est),.lit (.int .i64 d.cl)]] (one (.bool (exB g d.est d.cl))):=J5 g (j1 d);refine awN ?_;simp only [F47,seval,am,hg0,h8,hI0,hat0,hx,de,ab b5,ab aN];repeat refine ob ?_
   refine ⟨_,hX,(by first|rfl|simp [aU,aD,al,ax,A1.cells,ab b5]),?_⟩;try simp only [ak,F47,seval,am,hg0,h8,hI0,hat0,hx,de,ab b5,ab aN]
   repeat refine ob ?_
   refine awT ?_;refine awN ?_;simp only [F47,seval,am,hg0,h8,hI0,hat0,hx];repeat refine ob ?_
   refine awX ?_;(first|(simp only [F47,seval,am,dcS,j2,hg0,h8,hI0,hat0,hx,←hL0];done)|(simp only [F47,seval,am];first|(simp [dcS,j2,hg0,h8,hI0,hat0,hx,←hL0];done)|(simp [dcS,j2,hg0,h8,hI0,hat0,hx];done)|(rw [←hL0];simp [dcS,j2,hg0,h8,hI0,hat0,hx];done)))
  skip;obtain rfl:i0=l.length:=by omega
  have hI0:¬(l.length:Int)<(l.length:Int):=by omega
  rw [List.drop_length] at hL0;simp only [dkL] at hL0;refine awN ?_;simp only [F47,seval,am,hg0,h8,hI0];repeat refine ob ?_
  refine awF ?_;refine awQ ?_;simp only [F47,seval];by_cases hc:(4096:Int)<cnL l 1
  ·skip;refine awN ?_;simp only [F47,seval,am,hg0,h8,hI0,hc,ab eq];repeat refine ob ?_
   refine ⟨_,(KH l hl),(by first|rfl|simp [aU,aD,al,ax,A1.cells,ab b5]),?_⟩;try simp only [ak,F47,seval,am,hg0,h8,hI0,hc,ab eq]
   repeat refine ob ?_
   refine awT ?_;refine awN ?_;simp only [F47,seval,am,hg0,h8,hI0,hc];repeat refine ob ?_
   refine awX ?_;(first|(simp only [F47,seval,am,dcS,j2,hg0,h8,hI0,hc,←hL0];done)|(simp only [F47,seval,am];first|(simp [dcS,j2,hg0,h8,hI0,hc,←hL0];done)|(simp [dcS,j2,hg0,h8,hI0,hc];done)|(rw [←hL0];simp [dcS,j2,hg0,h8,hI0,hc];done)))
  skip;refine awN ?_;simp only [F47,seval,am,hg0,h8,hI0,hc,ab eq];repeat refine ob ?_
  refine ⟨_,(KH l hl),(by first|rfl|simp [aU,aD,al,ax,A1.cells,ab b5]),?_⟩;try simp only [ak,F47,seval,am,hg0,h8,hI0,hc,ab eq]
  repeat refine ob ?_
  refine awF ?_;refine awK ?_;simp only [F47,seval];refine awN ?_;simp only [F47,seval,am,hg0,h8,hI0,hc];repeat refine ob ?_
  refine awX ?_;(first|(simp only [F47,seval,am,dcS,j2,hg0,h8,hI0,hc,←hL0];done)|(simp only [F47,seval,am];first|(simp [dcS,j2,hg0,h8,hI0,hc,←hL0];done)|(simp [dcS,j2,hg0,h8,hI0,hc];done)|(rw [←hL0];simp [dcS,j2,hg0,h8,hI0,hc];done)))
 skip;refine awN ?_;simp only [F47,seval,am,hg0];repeat refine ob ?_
 refine awT ?_;refine awN ?_;simp only [F47,seval,am,hg0];repeat refine ob ?_
 refine awX ?_;(first|(simp only [F47,seval,am,dcS,j2,hg0];done)|(simp only [F47,seval,am];first|(simp [dcS,j2,hg0];done)))
def F48:=And.intro zS (And.intro Lf (And.intro Ew (And.intro CI (And.intro Hu (And.intro CJ (And.intro Hv (And.intro Hw (And.intro Hx (And.intro Gk (And.intro I2 (And.intro tw (And.intro tz (And.intro pr (And.intro jz (A0)))))))))))))))
theorem F49:type_of%F48:=F48
theorem M9 (g:GGrp) (l:List GDisp) (i:Nat) (hi:i<l.length) (hl:zg l):aR prog 114 [.agg (am g),.one (.sh 3 l.length (aA de l)),.one (.lit (.int .i64 i))] (one (.int .i64 (j2 g ((l.take i).map j1) l[i]))):=by
 have hl1:=hl.1;refine aP func114 rfl (by decide) (N:=71) rfl (by simp) (R:=[.tmp 6]) rfl fun en k0=>?_
 refine awN ?_;simp only [F49,seval,am];repeat refine ob ?_
 have hatd:=aO gB l i hi;have hd0:=hl.2 _ (List.getElem_mem hi);generalize hld:l[i]=d at *
 refine awN ?_;simp only [F49,seval,am,hatd,de];repeat refine ob ?_
 by_cases hx:exB g d.est d.cl=true
 ·have hX:aR prog 155 [.agg (am g),.agg [.lit (.int .i64 d.est),.lit (.int .i64 d.cl)]] (one (.bool (exB g d.est d.cl))):=J6 g (j1 d);refine awN ?_;simp only [F49,seval,am,hx,de,ab b5,ab aN];repeat refine ob ?_
  refine ⟨_,hX,rfl,?_⟩;try simp only [ak,F49,seval,am,hx,de,ab b5,ab aN]
  repeat refine ob ?_
  refine awF ?_;refine awK ?_;simp only [F49,seval];refine awN ?_;simp only [F49,seval,am,hx];repeat refine ob ?_
  refine aQ [1,2,3,6,7,8] [3,7] ?_;try simp only [ak,F49,seval,am,hx]
  repeat' first|apply awS|apply awB
  refine aM (fun n st=>∃k nx,k<=i/\n=i-k/\j1 d∉(l.take k).map j1/\st=⟨mkT [(1,.val (.one (.sh 3 l.length (aA de l)))),(2,one (.int .i64 i)),(3,.val (.one (.ptr 3 0 0))),(6,one (.int .i64 0)),(7,.val (.one (.ptr 7 1 0))),(8,one (.int .i64 k))],mkH [(3,⟨0,28,2,1,am g⟩),(7,⟨1,109,3,1,de d⟩)],nx,0⟩) (i) ⟨0,_,by omega,by omega,by simp,rfl⟩ ?_;rintro n0 st ⟨k,nx0,hk,rfl,hno,rfl⟩;by_cases hlt:(k:Int)<(i:Int)
  ·refine awN ?_;simp only [F49,seval,am,hx,hlt];repeat refine ob ?_
   refine awT ?_;refine awK ?_;simp only [F49,seval];by_cases he:j1 l[k]=j1 d
   ·have hatk:=aO gB l k (by omega);have hq:=Jl (j1 l[k]) (j1 d);have hqv:=Jm (j1 l[k]) (j1 d);simp only [j1] at hq hqv he;refine awD (scT 0 8 .nil) [0,0,0,0,0,0,0,0] ?_;simp only [F49,seval,am,hx,hlt,he,hatk,de,hqv];repeat refine ob ?_
    try refine ⟨hq,?_⟩
    repeat refine ob ?_
    refine awT ?_;refine awN ?_;simp only [F49,seval,am,hx,hlt,he];repeat refine ob ?_
    have hmem:j1 d∈(l.take i).map j1:=List.mem_map.2 ⟨l[k],by rw [List.mem_take_iff_getElem];exact ⟨k,by omega,rfl⟩,by simp only [j1];exact he⟩;generalize (l.take i).map j1=TT at *
    refine awX ?_;simp only [F49,seval];simp [j2,hx,hmem]
   have hatk:=aO gB l k (by omega);have hq:=Jl (j1 l[k]) (j1 d);have hqv:=Jm (j1 l[k]) (j1 d);simp only [j1] at hq hqv he;refine awD (scT 0 8 .nil) [0,0,0,0,0,0,0,0] ?_;simp only [F49,seval,am,hx,hlt,he,hatk,de,hqv];repeat refine ob ?_
   try refine ⟨hq,?_⟩
   repeat refine ob ?_
   refine awF ?_;refine awK ?_;simp only [F49,seval];refine awN ?_;simp only [F49,seval,am,hx,hlt,he];repeat refine ob ?_
   repeat refine ob ?_
   have hne:¬j1 l[k]=j1 d:=by intro h;simp only [j1] at h;exact he h
   refine ⟨_,aI [1,2,3,6,7,8] [3,7],i-(k+1),by omega,k+1,?nq,by omega,rfl,?hq1,?sq⟩;case sq=>(simp only [F49,seval];rfl)
   case hq1=>
    rw [List.take_succ_eq_append_getElem (by omega),List.map_append,List.mem_append];rintro (h|h)
    ·exact hno h
    simp only [List.map_cons,List.map_nil,List.mem_cons,List.not_mem_nil,or_false] at h;exact hne h.symm
  refine awN ?_;simp only [F49,seval,am,hx,hlt];repeat refine ob ?_
  refine awF ?_;refine awQ ?_;simp only [F49,seval];by_cases h1:(d.opts.length:Int)=0
  ·have hki:k=i:=by omega
   rw [hki] at hno;generalize (l.take i).map j1=TT at *
   have hno9:=hno;refine awN ?_;simp only [F49,seval,am,hx,hlt,h1,hno9,de];repeat refine ob ?_
   refine awT ?_;refine awN ?_;simp only [F49,seval,am,hx,hlt,h1,hno9];repeat refine ob ?_
   refine awX ?_;(first|(simp only [F49,seval,am,j2,opE,hx,hlt,h1,hno9];done)|(simp only [F49,seval,am];first|(simp [j2,opE,hx,hlt,h1,hno9];done)))
  have hki:k=i:=by omega
  rw [hki] at hno;generalize (l.take i).map j1=TT at *
  have hno9:=hno;refine awN ?_;simp only [F49,seval,am,hx,hlt,h1,hno9,de];repeat refine ob ?_
  refine awF ?_;refine awK ?_;simp only [F49,seval];by_cases h2:(4:Int)<(d.opts.length:Int)
  ·refine awN ?_;simp only [F49,seval,am,hx,hlt,h1,hno9,h2,de];repeat refine ob ?_
   refine awT ?_;refine awN ?_;simp only [F49,seval,am,hx,hlt,h1,hno9,h2];repeat refine ob ?_
   refine awX ?_;(first|(simp only [F49,seval,am,j2,opE,hx,hlt,h1,hno9,h2];done)|(simp only [F49,seval,am];first|(simp [j2,opE,hx,hlt,h1,hno9,h2];done)))
  refine awN ?_;simp only [F49,seval,am,hx,hlt,h1,hno9,h2,de];repeat refine ob ?_
  refine awF ?_;refine awK ?_;simp only [F49,seval];refine awN ?_;simp only [F49,seval,am,hx,hlt,h1,hno9,h2];repeat refine ob ?_
  refine aQ [1,2,3,6,7,9] [3,7] ?_;try simp only [ak,F49,seval,am,hx,hlt,h1,hno9,h2]
  repeat' first|apply awS|apply awB
  refine aM (fun n st=>∃q nx,q<=d.opts.length/\n=d.opts.length-q/\opL (d.opts.drop q)=opL d.opts/\st=⟨mkT [(1,.val (.one (.sh 3 l.length (aA de l)))),(2,one (.int .i64 i)),(3,.val (.one (.ptr 3 0 0))),(6,one (.int .i64 0)),(7,.val (.one (.ptr 7 1 0))),(9,one (.int .i64 q))],mkH [(3,⟨0,28,2,1,am g⟩),(7,⟨1,109,3,1,de d⟩)],nx,0⟩) (d.opts.length) ⟨0,_,by omega,by omega,by rfl,rfl⟩ ?_;rintro n1 st ⟨q,nx1,hk1,rfl,hL1,rfl⟩;by_cases hlt1:q<d.opts.length
  ·have hI1:(q:Int)<(d.opts.length:Int):=by omega
   have hat1:=aO lf d.opts q hlt1;try rw [Nat.mul_one] at hat1
   rw [List.drop_eq_getElem_cons hlt1] at hL1;have hr:=hd0.2 _ (List.getElem_mem hlt1);generalize d.opts[q]=x at *
   simp only [opL] at hL1;refine awN ?_;simp only [F49,seval,am,hx,hlt,h1,hno9,h2,hI1,hat1,de];repeat refine ob ?_
   refine awT ?_;refine awK ?_;simp only [F49,seval];by_cases h3:x.rank<0
   ·refine awR [] [0,0,0,0,0,0,0,0,110,110,110,110,110,110,110,0] ?_;simp only [F49,seval,am,hx,hlt,h1,hno9,h2,hI1,hat1,h3,de,jU];repeat refine ob ?_
    refine awT ?_;refine awN ?_;simp only [F49,seval,am,hx,hlt,h1,hno9,h2,hI1,hat1,h3];repeat refine ob ?_
    refine awX ?_;(first|(simp only [F49,seval,am,j2,opE,hx,hlt,h1,hno9,h2,hI1,hat1,h3,←hL1];done)|(simp only [F49,seval,am];first|(simp [j2,opE,hx,hlt,h1,hno9,h2,hI1,hat1,h3,←hL1];done)|(simp [j2,opE,hx,hlt,h1,hno9,h2,hI1,hat1,h3];done)|(rw [←hL1];simp [j2,opE,hx,hlt,h1,hno9,h2,hI1,hat1,h3];done)))
   by_cases h4:(7:Int)<x.rank
   ·refine awR [] [0,0,0,0,0,0,0,0,110,110,110,110,110,110,110,0] ?_;simp only [F49,seval,am,hx,hlt,h1,hno9,h2,hI1,hat1,h3,h4,de,jU];repeat refine ob ?_
    refine awT ?_;refine awN ?_;simp only [F49,seval,am,hx,hlt,h1,hno9,h2,hI1,hat1,h3,h4];repeat refine ob ?_
    refine awX ?_;(first|(simp only [F49,seval,am,j2,opE,hx,hlt,h1,hno9,h2,hI1,hat1,h3,h4,←hL1];done)|(simp only [F49,seval,am];first|(simp [j2,opE,hx,hlt,h1,hno9,h2,hI1,hat1,h3,h4,←hL1];done)|(simp [j2,opE,hx,hlt,h1,hno9,h2,hI1,hat1,h3,h4];done)|(rw [←hL1];simp [j2,opE,hx,hlt,h1,hno9,h2,hI1,hat1,h3,h4];done)))
   refine awR [] [0,0,0,0,0,0,0,0,110,110,110,110,110,110,110,0] ?_;simp only [F49,seval,am,hx,hlt,h1,hno9,h2,hI1,hat1,h3,h4,de,jU];repeat refine ob ?_
   refine awF ?_;refine awK ?_;simp only [F49,seval];by_cases h5:cU (qOf x.amount)<0
   ·refine awN ?_;simp only [F49,seval,am,hx,hlt,h1,hno9,h2,hI1,hat1,h3,h4,h5,de,jU];repeat refine ob ?_
    refine ⟨_,(CV x.amount hr.1 hr.2),rfl,?_⟩;try simp only [ak,F49,seval,am,hx,hlt,h1,hno9,h2,hI1,hat1,h3,h4,h5,de,jU]
    repeat refine ob ?_
    refine awT ?_;refine awN ?_;simp only [F49,seval,am,hx,hlt,h1,hno9,h2,hI1,hat1,h3,h4,h5];repeat refine ob ?_
    refine awX ?_;(first|(simp only [F49,seval,am,j2,opE,hx,hlt,h1,hno9,h2,hI1,hat1,h3,h4,h5,←hL1];done)|(simp only [F49,seval,am];first|(simp [j2,opE,hx,hlt,h1,hno9,h2,hI1,hat1,h3,h4,h5,←hL1];done)|(simp [j2,opE,hx,hlt,h1,hno9,h2,hI1,hat1,h3,h4,h5];done)|(rw [←hL1];simp [j2,opE,hx,hlt,h1,hno9,h2,hI1,hat1,h3,h4,h5];done)))
   refine awN ?_;simp only [F49,seval,am,hx,hlt,h1,hno9,h2,hI1,hat1,h3,h4,h5,de,jU];repeat refine ob ?_
   refine ⟨_,(CV x.amount hr.1 hr.2),rfl,?_⟩;try simp only [ak,F49,seval,am,hx,hlt,h1,hno9,h2,hI1,hat1,h3,h4,h5,de,jU]
   repeat refine ob ?_
   refine awF ?_;refine awK ?_;simp only [F49,seval];refine awN ?_;simp only [F49,seval,am,hx,hlt,h1,hno9,h2,hI1,hat1,h3,h4,h5];repeat refine ob ?_
   repeat refine ob ?_
   refine ⟨_,aI [1,2,3,6,7,9] [3,7],d.opts.length-(q+1),by omega,q+1,?a33_nx,by omega,rfl,?i33_0,?st33⟩;case st33=>(simp only [F49,seval,am,hx,hlt,h1,hno9,h2,hI1,hat1,h3,h4,h5];first|rfl|(simp [hx,hlt,h1,hno9,h2,hI1,hat1,h3,h4,h5,Nat.add_mul];done))
   case i33_0=>(first|exact hL1|(rw [←hL1];simp only [reduceIte,hx,hlt,h1,hno9,h2,hI1,hat1,h3,h4,h5];done)|(rw [←hL1];simp [hx,hlt,h1,hno9,h2,hI1,hat1,h3,h4,h5];done)|(simp [hx,hlt,h1,hno9,h2,hI1,hat1,h3,h4,h5] at hL1;simpa using hL1)|(rw [←hL1];simp [*];done))
  obtain rfl:q=d.opts.length:=by omega
  have hI1:¬(d.opts.length:Int)<(d.opts.length:Int):=by omega
  rw [List.drop_length] at hL1;simp only [opL] at hL1;refine awN ?_;simp only [F49,seval,am,hx,hlt,h1,hno9,h2,hI1,de];repeat refine ob ?_
  refine awF ?_;refine awQ ?_;simp only [F49,seval];refine awN ?_;simp only [F49,seval,am,hx,hlt,h1,hno9,h2,hI1];repeat refine ob ?_
  refine awX ?_;(first|(simp only [F49,seval,am,j2,opE,hx,hlt,h1,hno9,h2,hI1,←hL1];done)|(simp only [F49,seval,am];first|(simp [j2,opE,hx,hlt,h1,hno9,h2,hI1,←hL1];done)|(simp [j2,opE,hx,hlt,h1,hno9,h2,hI1];done)|(rw [←hL1];simp [j2,opE,hx,hlt,h1,hno9,h2,hI1];done)))
 have hX:aR prog 155 [.agg (am g),.agg [.lit (.int .i64 d.est),.lit (.int .i64 d.cl)]] (one (.bool (exB g d.est d.cl))):=J6 g (j1 d);refine awN ?_;simp only [F49,seval,am,hx,de,ab b5,ab aN];repeat refine ob ?_
 refine ⟨_,hX,rfl,?_⟩;try simp only [ak,F49,seval,am,hx,de,ab b5,ab aN]
 repeat refine ob ?_
 refine awT ?_;refine awN ?_;simp only [F49,seval,am,hx];repeat refine ob ?_
 refine awX ?_;(first|(simp only [F49,seval,am,j2,opE,hx];done)|(simp only [F49,seval,am];first|(simp [j2,opE,hx];done)))
def nzL:List GDisp->Bool
 |[]=>true
 |d::l=>if (d.opts.length:Int)=0 then false else nzL l
def rcN (l:List GDisp):Int:=if nzL l=true then cnL l 1 else 0
def F50:=And.intro zS (And.intro Lf (And.intro CI (And.intro Hu (And.intro Hv (Gk)))))
theorem F51:type_of%F50:=F50
theorem KI (l:List GDisp) (hl:zg l):aR prog 115 [.one (.sh 3 l.length (aA de l))] (one (.int .i64 (rcN l))):=by
 have hl1:=hl.1;refine aP func115 rfl (by decide) (N:=36) rfl (by simp) (R:=[.tmp 2]) rfl fun en k0=>?_
 refine awN ?_;simp only [F51,seval];repeat refine ob ?_
 refine Ek (M:=fun st=>∃nx,nzL l=true/\st=⟨mkT [(0,.val (.one (.sh 3 l.length (aA de l)))),(2,one (.int .i64 0))],mkH [],nx,0⟩) ?_ ?_
 ·skip;refine awN ?_;simp only [F51,seval];repeat refine ob ?_
  refine aQ [0,2,3] [] ?_;try simp only [ak,F51,seval]
  repeat' first|apply awS|apply awB
  refine aM (fun n st=>∃i0 nx,i0<=l.length/\n=l.length-i0/\nzL (l.drop i0)=nzL l/\st=⟨mkT [(0,.val (.one (.sh 3 l.length (aA de l)))),(2,one (.int .i64 0)),(3,one (.int .i64 i0))],mkH [],nx,0⟩) (l.length) ⟨0,_,by omega,by omega,by rfl,rfl⟩ ?_;rintro n0 st ⟨i0,nx0,hk0,rfl,hL0,rfl⟩;by_cases hlt0:i0<l.length
  ·skip;have hI0:(i0:Int)<(l.length:Int):=by omega
   have hat0:=aO gB l i0 hlt0;try rw [Nat.mul_one] at hat0
   rw [List.drop_eq_getElem_cons hlt0] at hL0;generalize l[i0]=d at *
   simp only [nzL] at hL0;refine awN ?_;simp only [F51,seval,hI0,hat0];repeat refine ob ?_
   refine awT ?_;refine awK ?_;simp only [F51,seval];by_cases hz:(d.opts.length:Int)=0
   ·skip;refine awN ?_;simp only [F51,seval,hI0,hat0,hz,de];repeat refine ob ?_
    refine awT ?_;refine awN ?_;simp only [F51,seval,hI0,hat0,hz];repeat refine ob ?_
    refine awX ?_;(first|(simp only [F51,seval,rcN,hI0,hat0,hz,←hL0];done)|(simp only [F51,seval];first|(simp [rcN,hI0,hat0,hz,←hL0];done)|(simp [rcN,hI0,hat0,hz];done)|(rw [←hL0];simp [rcN,hI0,hat0,hz];done)))
   skip;refine awN ?_;simp only [F51,seval,hI0,hat0,hz,de];repeat refine ob ?_
   refine awF ?_;refine awK ?_;simp only [F51,seval];refine awN ?_;simp only [F51,seval,hI0,hat0,hz];repeat refine ob ?_
   repeat refine ob ?_
   refine ⟨_,aI [0,2,3] [],l.length-(i0+1),by omega,i0+1,?a8_nx,by omega,rfl,?i8_0,?st8⟩;case st8=>(simp only [F51,seval,hI0,hat0,hz];first|rfl|(simp [hI0,hat0,hz,Nat.add_mul];done))
   case i8_0=>(first|exact hL0|(rw [←hL0];simp only [reduceIte,hI0,hat0,hz];done)|(rw [←hL0];simp [hI0,hat0,hz];done)|(simp [hI0,hat0,hz] at hL0;simpa using hL0)|(rw [←hL0];simp [*];done))
  skip;obtain rfl:i0=l.length:=by omega
  have hI0:¬(l.length:Int)<(l.length:Int):=by omega
  rw [List.drop_length] at hL0;simp only [nzL] at hL0;refine awN ?_;simp only [F51,seval,hI0];repeat refine ob ?_
  refine awF ?_;refine awQ ?_;simp only [F51,seval];refine ⟨_,aI [0,2] [],?c10_0,?ci10_0,?cs10⟩;case cs10=>(simp only [F51,seval];rfl)
  case ci10_0=>(first|assumption|omega|(rw [←hL0];done)|(rw [hL0];done)|exact hL0.symm|(simp [←hL0];done))
 rintro st ⟨nxc0,hC0,rfl⟩;refine awN ?_;simp only [F51,seval,hC0];repeat refine ob ?_
 refine awN ?_;simp only [F51,seval,hC0];repeat refine ob ?_
 refine aQ [0,2,4,5] [] ?_;try simp only [ak,F51,seval,hC0]
 repeat' first|apply awS|apply awB
 refine aM (fun n st=>∃i0 a nx,i0<=l.length/\n=l.length-i0/\cnL (l.drop i0) a=cnL l 1/\0<=a/\a<=4097/\st=⟨mkT [(0,.val (.one (.sh 3 l.length (aA de l)))),(2,one (.int .i64 0)),(4,one (.int .i64 a)),(5,one (.int .i64 i0))],mkH [],nx,0⟩) (l.length) ⟨0,1,_,by omega,by omega,by rfl,(by first|omega|assumption|rfl|simp|(simp;omega)),(by first|omega|assumption|rfl|simp|(simp;omega)),rfl⟩ ?_;rintro n1 st ⟨i0,a,nx1,hk1,rfl,hL1,hV1_1,hV1_2,rfl⟩;by_cases hlt1:i0<l.length
 ·skip;have hI1:(i0:Int)<(l.length:Int):=by omega
  have hat1:=aO gB l i0 hlt1;try rw [Nat.mul_one] at hat1
  rw [List.drop_eq_getElem_cons hlt1] at hL1;have hd1:=hl.2 _ (List.getElem_mem hlt1);have hm0:0<=a*min (l[i0].opts.length:Int) 4097:=Int.mul_nonneg hV1_1 (by omega);have hm1:a*min (l[i0].opts.length:Int) 4097<=4097*4097:=Int.mul_le_mul hV1_2 (by omega) (by omega) (by omega);generalize l[i0]=d at *
  simp only [cnL] at hL1;refine awN ?_;simp only [F51,seval,hC0,hI1,hat1];repeat refine ob ?_
  refine awT ?_;refine awK ?_;simp only [F51,seval];refine awN ?_;simp only [F51,seval,hC0,hI1,hat1,de];repeat refine ob ?_
  refine awN ?_;simp only [F51,seval,hC0,hI1,hat1];repeat refine ob ?_
  repeat refine ob ?_
  refine ⟨_,aI [0,2,4,5] [],l.length-(i0+1),by omega,i0+1,(min (a*min (d.opts.length:Int) 4097) 4097),?a16_nx,by omega,rfl,?i16_0,?i16_1,?i16_2,?st16⟩;case st16=>(simp only [F51,seval,hC0,hI1,hat1];first|rfl|(simp [hC0,hI1,hat1,Nat.add_mul];done))
  case i16_0=>(first|exact hL1|(rw [←hL1];simp only [reduceIte,hC0,hI1,hat1];done)|(rw [←hL1];simp [hC0,hI1,hat1];done)|(simp [hC0,hI1,hat1] at hL1;simpa using hL1)|(rw [←hL1];simp [*];done))
  all_goals (first|omega|assumption|(simp;omega)|(simp_all;done))
 skip;obtain rfl:i0=l.length:=by omega
 have hI1:¬(l.length:Int)<(l.length:Int):=by omega
 rw [List.drop_length] at hL1;simp only [cnL] at hL1;refine awN ?_;simp only [F51,seval,hC0,hI1];repeat refine ob ?_
 refine awF ?_;refine awQ ?_;simp only [F51,seval];refine awN ?_;simp only [F51,seval,hC0,hI1];repeat refine ob ?_
 refine awX ?_;(first|(simp only [F51,seval,rcN,hC0,hI1,←hL1];done)|(simp only [F51,seval];first|(simp [rcN,hC0,hI1,←hL1];done)|(simp [rcN,hC0,hI1];done)|(rw [←hL1];simp [rcN,hC0,hI1];done)))
noncomputable def dkN (g:GGrp) (l:List GDisp):List GDisp->Nat->Int
 |[],_=>0
 |d::t,i=>if j2 g ((l.take i).map j1) d=0 then dkN g l t (i+1) else j2 g ((l.take i).map j1) d
noncomputable def rcS (gc:Int) (g:GGrp) (l:List GDisp):Int:=if gc=0 then (if (8:Int)<(l.length:Int) then 2 else if dkN g l l 0=0 then (if (4096:Int)<rcN l then 2 else 0) else dkN g l l 0) else gc
def F52:=And.intro zS (And.intro CI (tw))
theorem F53:type_of%F52:=F52
theorem Mm (g:GGrp) (l:List GDisp) (hg:Kf g) (hl:zg l):aR prog 64 [.agg (am g),.one (.sh 3 l.length (aA de l))] (one (.int .i64 (rcS (ne g) g l))):=by
 have hl1:=hl.1;refine aP func64 rfl (by decide) (N:=32) rfl (by simp) (R:=[.tmp 4]) rfl fun en k0=>?_
 refine awN ?_;simp only [F53,seval,am];repeat refine ob ?_
 have hG:=Mi g hg;refine awN ?_;simp only [F53,seval,am,ab b5,ab aN];repeat refine ob ?_
 refine ⟨_,hG,rfl,?_⟩;try simp only [ak,F53,seval,am,ab b5,ab aN]
 repeat refine ob ?_
 by_cases hg0:ne g=0
 ·skip;refine awN ?_;simp only [F53,seval,am,hg0];repeat refine ob ?_
  refine awF ?_;refine awK ?_;simp only [F53,seval];by_cases h8:(8:Int)<(l.length:Int)
  ·skip;refine awN ?_;simp only [F53,seval,am,hg0,h8];repeat refine ob ?_
   refine awT ?_;refine awN ?_;simp only [F53,seval,am,hg0,h8];repeat refine ob ?_
   refine awX ?_;(first|(simp only [F53,seval,am,rcS,hg0,h8];done)|(simp only [F53,seval,am];first|(simp [rcS,hg0,h8];done)))
  skip;refine awN ?_;simp only [F53,seval,am,hg0,h8];repeat refine ob ?_
  refine awF ?_;refine awK ?_;simp only [F53,seval];refine awN ?_;simp only [F53,seval,am,hg0,h8];repeat refine ob ?_
  refine aQ [1,2,4,6] [2] ?_;try simp only [ak,F53,seval,am,hg0,h8]
  repeat' first|apply awS|apply awB
  refine aM (fun n st=>∃i0 nx,i0<=l.length/\n=l.length-i0/\dkN g l (l.drop i0) i0=dkN g l l 0/\st=⟨mkT [(1,.val (.one (.sh 3 l.length (aA de l)))),(2,.val (.one (.ptr 2 0 0))),(4,one (.int .i64 0)),(6,one (.int .i64 i0))],mkH [(2,⟨0,28,2,1,am g⟩)],nx,0⟩) (l.length) ⟨0,_,by omega,by omega,by rfl,rfl⟩ ?_;rintro n0 st ⟨i0,nx0,hk0,rfl,hL0,rfl⟩;by_cases hlt0:i0<l.length
  ·skip;have hI0:(i0:Int)<(l.length:Int):=by omega
   rw [List.drop_eq_getElem_cons hlt0] at hL0;have hW:=M9 g l i0 hlt0 hl;generalize l[i0]=d at *
   simp only [dkN] at hL0;refine awN ?_;simp only [F53,seval,am,hg0,h8,hI0];repeat refine ob ?_
   refine awT ?_;refine awK ?_;simp only [F53,seval];refine awN ?_;simp only [F53,seval,am,hg0,h8,hI0,ab b5,ab aN,ab eq];repeat refine ob ?_
   refine ⟨_,hW,rfl,?_⟩;try simp only [ak,F53,seval,am,hg0,h8,hI0,ab b5,ab aN,ab eq]
   repeat refine ob ?_
   by_cases ho:j2 g ((l.take i0).map j1) d=0
   ·skip;refine awN ?_;simp only [F53,seval,am,hg0,h8,hI0,ho];repeat refine ob ?_
    refine awF ?_;refine awK ?_;simp only [F53,seval];refine awN ?_;simp only [F53,seval,am,hg0,h8,hI0,ho];repeat refine ob ?_
    repeat refine ob ?_
    refine ⟨_,aI [1,2,4,6] [2],l.length-(i0+1),by omega,i0+1,?a12_nx,by omega,rfl,?i12_0,?st12⟩;case st12=>(simp only [F53,seval,am,hg0,h8,hI0,ho];first|rfl|(simp [hg0,h8,hI0,ho,Nat.add_mul];done))
    case i12_0=>(first|exact hL0|(rw [←hL0];simp only [reduceIte,hg0,h8,hI0,ho];done)|(rw [←hL0];simp [hg0,h8,hI0,ho];done)|(simp [hg0,h8,hI0,ho] at hL0;simpa using hL0)|(rw [←hL0];simp [*];done))
   skip;refine awN ?_;simp only [F53,seval,am,hg0,h8,hI0,ho];repeat refine ob ?_
   refine awT ?_;refine awN ?_;simp only [F53,seval,am,hg0,h8,hI0,ho];repeat refine ob ?_
   refine awX ?_;(first|(simp only [F53,seval,am,rcS,hg0,h8,hI0,ho,←hL0];done)|(simp only [F53,seval,am];first|(simp [rcS,hg0,h8,hI0,ho,←hL0];done)|(simp [rcS,hg0,h8,hI0,ho];done)|(rw [←hL0];simp [rcS,hg0,h8,hI0,ho];done)))
  skip;obtain rfl:i0=l.length:=by omega
  have hI0:¬(l.length:Int)<(l.length:Int):=by omega
  rw [List.drop_length] at hL0;simp only [dkN] at hL0;refine awN ?_;simp only [F53,seval,am,hg0,h8,hI0];repeat refine ob ?_
  refine awF ?_;refine awQ ?_;simp only [F53,seval];by_cases hc:(4096:Int)<rcN l
  ·skip;refine awN ?_;simp only [F53,seval,am,hg0,h8,hI0,hc,ab eq];repeat refine ob ?_
   refine ⟨_,(KI l hl),rfl,?_⟩;try simp only [ak,F53,seval,am,hg0,h8,hI0,hc,ab eq]
   repeat refine ob ?_
   refine awT ?_;refine awN ?_;simp only [F53,seval,am,hg0,h8,hI0,hc];repeat refine ob ?_
   refine awX ?_;(first|(simp only [F53,seval,am,rcS,hg0,h8,hI0,hc,←hL0];done)|(simp only [F53,seval,am];first|(simp [rcS,hg0,h8,hI0,hc,←hL0];done)|(simp [rcS,hg0,h8,hI0,hc];done)|(rw [←hL0];simp [rcS,hg0,h8,hI0,hc];done)))
  skip;refine awN ?_;simp only [F53,seval,am,hg0,h8,hI0,hc,ab eq];repeat refine ob ?_
  refine ⟨_,(KI l hl),rfl,?_⟩;try simp only [ak,F53,seval,am,hg0,h8,hI0,hc,ab eq]
  repeat refine ob ?_
  refine awF ?_;refine awK ?_;simp only [F53,seval];refine awN ?_;simp only [F53,seval,am,hg0,h8,hI0,hc];repeat refine ob ?_
  refine awX ?_;(first|(simp only [F53,seval,am,rcS,hg0,h8,hI0,hc,←hL0];done)|(simp only [F53,seval,am];first|(simp [rcS,hg0,h8,hI0,hc,←hL0];done)|(simp [rcS,hg0,h8,hI0,hc];done)|(rw [←hL0];simp [rcS,hg0,h8,hI0,hc];done)))
 skip;refine awN ?_;simp only [F53,seval,am,hg0];repeat refine ob ?_
 refine awT ?_;refine awN ?_;simp only [F53,seval,am,hg0];repeat refine ob ?_
 refine awX ?_;(first|(simp only [F53,seval,am,rcS,hg0];done)|(simp only [F53,seval,am];first|(simp [rcS,hg0];done)))
theorem Lr (g:GGrp) (l:List GDisp):∀(t:List GDisp) (i:Nat),l.drop i=t->dkN g l t i=dkL g ((l.take i).map j1) t
 |[],_,_=>rfl
 |d::t,i,h=>by
  have hi:i<l.length:=by
   rcases Nat.lt_or_ge i l.length with h1|h1
   ·exact h1
   rw [List.drop_eq_nil_of_le h1] at h;cases h
  rw [List.drop_eq_getElem_cons hi] at h;obtain ⟨h1,h2⟩:=List.cons.inj h;have h3:=Lr g l t (i+1) h2;rw [List.take_succ_eq_append_getElem hi,List.map_append,h1] at h3;simp only [dkN,dkL,h3,List.map_cons,List.map_nil]
theorem Ny {l:List GOpt} (h:opE l=0):¬(l.length:Int)=0:=by
 intro h0;unfold opE at h;rw [if_pos h0] at h;cases h
theorem Mn (g:GGrp):∀(l:List GDisp) (T:List Leg),dkL g T l=0->nzL l=true
 |[],_,_=>rfl
 |d::l,T,h=>by
  simp only [dkL] at h;split at h
  ·rename_i h1;have h2:=Mn g l _ h;have h3:¬(d.opts.length:Int)=0:=by
    unfold j2 at h1;split at h1
    ·split at h1
     ·cases h1
     exact Ny h1
    cases h1
   simp only [nzL,h3,if_false,h2]
  rename_i h1;exact absurd h h1
theorem Ls (gc:Int) (g:GGrp) (l:List GDisp):dcS gc g l=rcS gc g l:=by
 have h1:=Lr g l l 0 rfl;simp only [List.take_zero,List.map_nil] at h1;unfold dcS rcS;rw [h1];split
 ·split
  ·rfl
  split
  ·rename_i h2;unfold rcN;rw [if_pos (Mn g l [] h2)]
  rfl
 rfl
def frP (c:Int):List GPart->Bool
 |[]=>true
 |p::l=>if p.claim=c then false else frP c l
def frT (c:Int):List (List GPart)->Bool
 |[]=>true
 |t::l=>if frP c t=true then frT c l else false
def frA (c:Int):List bR->Bool
 |[]=>true
 |a::l=>if frT c a=true then frA c l else false
def tkL (i c:Int):List Leg->Bool
 |[]=>false
 |x::l=>if x.1=i then (if x.2=c then true else tkL i c l) else tkL i c l
def tkD (i c:Int):List GDebt->Bool
 |[]=>false
 |d::l=>if tkL i c d.legs=true then true else tkD i c l
def F54:=And.intro zS (And.intro tf1 (And.intro IY (And.intro tf6 (And.intro tf2 (And.intro IZ (And.intro tf0 (And.intro tf8 (And.intro Ht (And.intro tf9 (And.intro KB (And.intro Gf (And.intro tf3 (And.intro Gg (And.intro AU (And.intro jz (And.intro Gh (tf5)))))))))))))))))
theorem F55:type_of%F54:=F54
theorem Mo (e:GEst) (c:Int) (hn:e.agrs.length<=1000000000000) (he:∀a∈e.agrs,a.length<=1000000000000/\∀t∈a,t.length<=1000000000000):aR prog 99 [.agg (aJ e),.one (.lit (.int .i64 c))] (one (.bool (frA c e.agrs))):=by
 refine aP func99 rfl (by decide) (N:=38) rfl (by simp) (R:=[.tmp 4]) rfl fun en k0=>?_
 refine awN ?_;simp only [F55,seval,aJ];refine awN ?_;simp only [F55,seval];refine aQ [1,2,12,13,14] [2] ?_;try simp only [ak,F55,seval]
 repeat' first|apply awS|apply awB
 refine aM (fun n st=>∃k0 nx,k0<=e.agrs.length/\n=e.agrs.length-k0/\frA c (e.agrs.drop k0)=frA c e.agrs/\st=⟨mkT [(1,one (.int .i64 c)),(2,.val (.one (.ptr 2 0 0))),(12,.val (.one (.sh 1 e.agrs.length (aA bu e.agrs)))),(13,one (.int .i64 e.agrs.length)),(14,one (.int .i64 k0))],mkH [(2,⟨0,36,5,1,aJ e⟩)],nx,0⟩) (e.agrs.length) ⟨0,_,by omega,by omega,by rfl,rfl⟩ ?_;rintro n0 st ⟨k0,nx0,hk0,rfl,hL0,rfl⟩;by_cases hlt0:k0<e.agrs.length
 ·skip;have hI0:(k0:Int)<(e.agrs.length:Int):=by omega
  have hat0:=aO gI e.agrs k0 hlt0;try rw [Nat.mul_one] at hat0
  rw [List.drop_eq_getElem_cons hlt0] at hL0;have hA:=he _ (List.getElem_mem hlt0);generalize e.agrs[k0]=a at *
  simp only [frA] at hL0;refine awN ?_;simp only [F55,seval,aJ,hI0];refine awT ?_;refine awK ?_;simp only [F55,seval];refine awN ?_;simp only [F55,seval,hI0,hat0,bu];repeat refine ob ?_
  refine awN ?_;simp only [F55,seval];refine aQ [1,2,12,13,14,19,20,21] [2] ?_;try simp only [ak,F55,seval]
  repeat' first|apply awS|apply awB
  refine aM (fun n st=>∃k1 nx,k1<=a.length/\n=a.length-k1/\frT c (a.drop k1)=frT c a/\st=⟨mkT [(1,one (.int .i64 c)),(2,.val (.one (.ptr 2 0 0))),(12,.val (.one (.sh 1 e.agrs.length (aA bu e.agrs)))),(13,one (.int .i64 e.agrs.length)),(14,one (.int .i64 k0)),(19,.val (.one (.sh 1 a.length (aA bD a)))),(20,one (.int .i64 a.length)),(21,one (.int .i64 k1))],mkH [(2,⟨0,36,5,1,aJ e⟩)],nx,0⟩) (a.length) ⟨0,_,by omega,by omega,by rfl,rfl⟩ ?_;rintro n1 st ⟨k1,nx1,hk1,rfl,hL1,rfl⟩;by_cases hlt1:k1<a.length
  ·skip;have hI1:(k1:Int)<(a.length:Int):=by omega
   have hat1:=aO eA a k1 hlt1;try rw [Nat.mul_one] at hat1
   rw [List.drop_eq_getElem_cons hlt1] at hL1;have hn3:=hA.2 _ (List.getElem_mem hlt1);generalize a[k1]=t at *
   simp only [frT] at hL1;refine awN ?_;simp only [F55,seval,aJ,hI1];refine awT ?_;refine awK ?_;simp only [F55,seval];refine awN ?_;simp only [F55,seval,hI1,hat1,bD];repeat refine ob ?_
   refine awN ?_;simp only [F55,seval];refine aQ [1,2,12,13,14,19,20,21,25,26,27] [2] ?_;try simp only [ak,F55,seval]
   repeat' first|apply awS|apply awB
   refine aM (fun n st=>∃k2 nx,k2<=t.length/\n=t.length-k2/\frP c (t.drop k2)=frP c t/\st=⟨mkT [(1,one (.int .i64 c)),(2,.val (.one (.ptr 2 0 0))),(12,.val (.one (.sh 1 e.agrs.length (aA bu e.agrs)))),(13,one (.int .i64 e.agrs.length)),(14,one (.int .i64 k0)),(19,.val (.one (.sh 1 a.length (aA bD a)))),(20,one (.int .i64 a.length)),(21,one (.int .i64 k1)),(25,.val (.one (.sh 5 t.length (aA bT t)))),(26,one (.int .i64 t.length)),(27,one (.int .i64 k2))],mkH [(2,⟨0,36,5,1,aJ e⟩)],nx,0⟩) (t.length) ⟨0,_,by omega,by omega,by rfl,rfl⟩ ?_;rintro n2 st ⟨k2,nx2,hk2,rfl,hL2,rfl⟩;by_cases hlt2:k2<t.length
   ·skip;have hI2:(k2:Int)<(t.length:Int):=by omega
    have hat2:=aO eX t k2 hlt2;try rw [Nat.mul_one] at hat2
    rw [List.drop_eq_getElem_cons hlt2] at hL2;generalize t[k2]=p at *
    simp only [frP] at hL2;refine awN ?_;simp only [F55,seval,aJ,hI2];refine awT ?_;refine awK ?_;simp only [F55,seval];refine awN ?_;simp only [F55,seval,hI2,hat2,bT];repeat refine ob ?_
    by_cases h1:p.claim=c
    ·skip;refine awN ?_;simp only [F55,seval,h1];refine awT ?_;refine awN ?_;simp only [F55,seval];refine awX ?_;(first|(simp only [F55,seval,h1,←hL0,←hL1,←hL2];done)|(simp only [F55,seval,aJ];first|(simp [hI0,hat0,hI1,hat1,hI2,hat2,h1,←hL0,←hL1,←hL2];done)|(simp [hI0,hat0,hI1,hat1,hI2,hat2,h1];done)|(rw [←hL0,←hL1,←hL2];simp [hI0,hat0,hI1,hat1,hI2,hat2,h1];done)))
    skip;refine awN ?_;simp only [F55,seval,h1];refine awF ?_;refine awK ?_;simp only [F55,seval];refine awN ?_;simp only [F55,seval];repeat refine ob ?_
    refine ⟨_,aI [1,2,12,13,14,19,20,21,25,26,27] [2],t.length-(k2+1),by omega,k2+1,?a15_nx,by omega,rfl,?i15_0,?st15⟩;case st15=>(simp only [F55,seval];first|rfl|(simp [Nat.add_mul];done))
    case i15_0=>(first|exact hL2|(rw [←hL2];simp only [reduceIte,h1];done)|(rw [←hL2];simp [hI0,hat0,hI1,hat1,hI2,hat2,h1];done)|(simp [hI0,hat0,hI1,hat1,hI2,hat2,h1] at hL2;simpa using hL2)|(rw [←hL2];simp [*];done))
   skip;obtain rfl:k2=t.length:=by omega
   have hI2:¬(t.length:Int)<(t.length:Int):=by omega
   rw [List.drop_length] at hL2;simp only [frP] at hL2;refine awN ?_;simp only [F55,seval,aJ,hI2];refine awF ?_;refine awQ ?_;simp only [F55,seval];refine awN ?_;simp only [F55,seval];repeat refine ob ?_
   refine ⟨_,aI [1,2,12,13,14,19,20,21] [2],a.length-(k1+1),by omega,k1+1,?a18_nx,by omega,rfl,?i18_0,?st18⟩;case st18=>(simp only [F55,seval];first|rfl|(simp [Nat.add_mul];done))
   case i18_0=>(first|exact hL1|(rw [←hL1];simp [←hL2];done)|(rw [←hL1];simp only [reduceIte,hI0,hat0,hI1,hat1,hI2];done)|(rw [←hL1];simp [hI0,hat0,hI1,hat1,hI2];done)|(simp [hI0,hat0,hI1,hat1,hI2] at hL1;simpa using hL1)|(rw [←hL1];simp [*];done))
  skip;obtain rfl:k1=a.length:=by omega
  have hI1:¬(a.length:Int)<(a.length:Int):=by omega
  rw [List.drop_length] at hL1;simp only [frT] at hL1;refine awN ?_;simp only [F55,seval,aJ,hI1];refine awF ?_;refine awQ ?_;simp only [F55,seval];refine awN ?_;simp only [F55,seval];repeat refine ob ?_
  refine ⟨_,aI [1,2,12,13,14] [2],e.agrs.length-(k0+1),by omega,k0+1,?a21_nx,by omega,rfl,?i21_0,?st21⟩;case st21=>(simp only [F55,seval];first|rfl|(simp [Nat.add_mul];done))
  case i21_0=>(first|exact hL0|(rw [←hL0];simp [←hL1];done)|(rw [←hL0];simp only [reduceIte,hI0,hat0,hI1];done)|(rw [←hL0];simp [hI0,hat0,hI1];done)|(simp [hI0,hat0,hI1] at hL0;simpa using hL0)|(rw [←hL0];simp [*];done))
 skip;obtain rfl:k0=e.agrs.length:=by omega
 have hI0:¬(e.agrs.length:Int)<(e.agrs.length:Int):=by omega
 rw [List.drop_length] at hL0;simp only [frA] at hL0;refine awN ?_;simp only [F55,seval,aJ,hI0];refine awF ?_;refine awQ ?_;simp only [F55,seval];refine awN ?_;simp only [F55,seval];refine awX ?_;(first|(simp only [F55,seval,←hL0];done)|(simp only [F55,seval,aJ];first|(simp [hI0,←hL0];done)|(simp [hI0];done)|(rw [←hL0];simp [hI0];done)))
def F56:=And.intro zS (And.intro pt (And.intro Hr (And.intro ll (And.intro Er (And.intro Ge (And.intro AY (And.intro vg (And.intro Eq (And.intro Gj (And.intro pq (And.intro nX (And.intro tz (And.intro jz (And.intro AZ (CG)))))))))))))))
theorem F57:type_of%F56:=F56
theorem Kg (g:GGrp) (i c:Int) (hn:g.debts.length<=1000000000000) (he:∀d∈g.debts,d.legs.length<=1000000000000):aR prog 100 [.agg (am g),.one (.lit (.int .i64 i)),.one (.lit (.int .i64 c))] (one (.bool (tkD i c g.debts))):=by
 refine aP func100 rfl (by decide) (N:=37) rfl (by simp) (R:=[.tmp 6]) rfl fun en k0=>?_
 refine awN ?_;simp only [F57,seval,am];refine awN ?_;simp only [F57,seval];refine aQ [1,2,3,12,13,14] [3] ?_;try simp only [ak,F57,seval]
 repeat' first|apply awS|apply awB
 refine aM (fun n st=>∃k0 nx,k0<=g.debts.length/\n=g.debts.length-k0/\tkD i c (g.debts.drop k0)=tkD i c g.debts/\st=⟨mkT [(1,one (.int .i64 i)),(2,one (.int .i64 c)),(3,.val (.one (.ptr 3 0 0))),(12,.val (.one (.sh 4 g.debts.length (aA fu g.debts)))),(13,one (.int .i64 g.debts.length)),(14,one (.int .i64 k0))],mkH [(3,⟨0,28,2,1,am g⟩)],nx,0⟩) (g.debts.length) ⟨0,_,by omega,by omega,by rfl,rfl⟩ ?_;rintro n0 st ⟨k0,nx0,hk0,rfl,hL0,rfl⟩;by_cases hlt0:k0<g.debts.length
 ·have hI0:(k0:Int)<(g.debts.length:Int):=by omega
  have hat0:=aO gb g.debts k0 hlt0;try rw [Nat.mul_one] at hat0
  rw [List.drop_eq_getElem_cons hlt0] at hL0;have hA:=he _ (List.getElem_mem hlt0);generalize g.debts[k0]=d at *
  simp only [tkD] at hL0;refine awN ?_;simp only [F57,seval,am,hI0];refine awT ?_;refine awK ?_;simp only [F57,seval];refine awN ?_;simp only [F57,seval,hI0,hat0,fu];repeat refine ob ?_
  refine awN ?_;simp only [F57,seval];refine aQ [1,2,3,12,13,14,19,20,21] [3] ?_;try simp only [ak,F57,seval]
  repeat' first|apply awS|apply awB
  refine aM (fun n st=>∃k1 nx,k1<=d.legs.length/\n=d.legs.length-k1/\tkL i c (d.legs.drop k1)=tkL i c d.legs/\st=⟨mkT [(1,one (.int .i64 i)),(2,one (.int .i64 c)),(3,.val (.one (.ptr 3 0 0))),(12,.val (.one (.sh 4 g.debts.length (aA fu g.debts)))),(13,one (.int .i64 g.debts.length)),(14,one (.int .i64 k0)),(19,.val (.one (.sh 2 d.legs.length (aA gp d.legs)))),(20,one (.int .i64 d.legs.length)),(21,one (.int .i64 k1))],mkH [(3,⟨0,28,2,1,am g⟩)],nx,0⟩) (d.legs.length) ⟨0,_,by omega,by omega,by rfl,rfl⟩ ?_;rintro n1 st ⟨k1,nx1,hk1,rfl,hL1,rfl⟩;by_cases hlt1:k1<d.legs.length
  ·have hI1:(k1:Int)<(d.legs.length:Int):=by omega
   have hat1:=aO gt d.legs k1 hlt1;try rw [Nat.mul_one] at hat1
   rw [List.drop_eq_getElem_cons hlt1] at hL1;generalize d.legs[k1]=x at *
   simp only [tkL] at hL1;refine awN ?_;simp only [F57,seval,am,hI1];refine awT ?_;refine awK ?_;simp only [F57,seval];refine awN ?_;simp only [F57,seval,hI1,hat1,gp];repeat refine ob ?_
   by_cases h1:x.1=i
   ·by_cases h2:x.2=c
    ·refine awR [] [0,0,0,0,0,61,61,61,61,0] ?_;simp only [F57,seval,h1,h2];refine awT ?_;refine awN ?_;simp only [F57,seval];refine awX ?_;(first|(simp only [F57,seval,h1,h2,←hL0,←hL1];done)|(simp only [F57,seval,am];first|(simp [hI0,hat0,hI1,hat1,h1,h2,←hL0,←hL1];done)|(simp [hI0,hat0,hI1,hat1,h1,h2];done)|(rw [←hL0,←hL1];simp [hI0,hat0,hI1,hat1,h1,h2];done)))
    refine awR [] [0,0,0,0,0,61,61,61,61,0] ?_;simp only [F57,seval,h1,h2];refine awF ?_;refine awK ?_;simp only [F57,seval];refine awN ?_;simp only [F57,seval];repeat refine ob ?_
    refine ⟨_,aI [1,2,3,12,13,14,19,20,21] [3],d.legs.length-(k1+1),by omega,k1+1,?a12_nx,by omega,rfl,?i12_0,?st12⟩;case st12=>(simp only [F57,seval];first|rfl|(simp [Nat.add_mul];done))
    case i12_0=>(first|exact hL1|(rw [←hL1];simp only [reduceIte,h1,h2];done)|(rw [←hL1];simp [hI0,hat0,hI1,hat1,h1,h2];done)|(simp [hI0,hat0,hI1,hat1,h1,h2] at hL1;simpa using hL1)|(rw [←hL1];simp [*];done))
   refine awR [] [0,0,0,0,0,61,61,61,61,0] ?_;simp only [F57,seval,h1];refine awF ?_;refine awK ?_;simp only [F57,seval];refine awN ?_;simp only [F57,seval];repeat refine ob ?_
   refine ⟨_,aI [1,2,3,12,13,14,19,20,21] [3],d.legs.length-(k1+1),by omega,k1+1,?a15_nx,by omega,rfl,?i15_0,?st15⟩;case st15=>(simp only [F57,seval];first|rfl|(simp [Nat.add_mul];done))
   case i15_0=>(first|exact hL1|(rw [←hL1];simp only [reduceIte,h1];done)|(rw [←hL1];simp [hI0,hat0,hI1,hat1,h1];done)|(simp [hI0,hat0,hI1,hat1,h1] at hL1;simpa using hL1)|(rw [←hL1];simp [*];done))
  obtain rfl:k1=d.legs.length:=by omega
  have hI1:¬(d.legs.length:Int)<(d.legs.length:Int):=by omega
  rw [List.drop_length] at hL1;simp only [tkL] at hL1;refine awN ?_;simp only [F57,seval,am,hI1];refine awF ?_;refine awQ ?_;simp only [F57,seval];refine awN ?_;simp only [F57,seval];repeat refine ob ?_
  refine ⟨_,aI [1,2,3,12,13,14] [3],g.debts.length-(k0+1),by omega,k0+1,?a18_nx,by omega,rfl,?i18_0,?st18⟩;case st18=>(simp only [F57,seval];first|rfl|(simp [Nat.add_mul];done))
  case i18_0=>(first|exact hL0|(rw [←hL0];simp [←hL1];done)|(rw [←hL0];simp only [reduceIte,hI0,hat0,hI1];done)|(rw [←hL0];simp [hI0,hat0,hI1];done)|(simp [hI0,hat0,hI1] at hL0;simpa using hL0)|(rw [←hL0];simp [*];done))
 obtain rfl:k0=g.debts.length:=by omega
 have hI0:¬(g.debts.length:Int)<(g.debts.length:Int):=by omega
 rw [List.drop_length] at hL0;simp only [tkD] at hL0;refine awN ?_;simp only [F57,seval,am,hI0];refine awF ?_;refine awQ ?_;simp only [F57,seval];refine awN ?_;simp only [F57,seval];refine awX ?_;(first|(simp only [F57,seval,←hL0];done)|(simp only [F57,seval,am];first|(simp [hI0,←hL0];done)|(simp [hI0];done)|(rw [←hL0];simp [hI0];done)))
end Go.Proofs.YtokmkopihhnggaaGreatDoor
namespace Go.Proofs.YtokmkopihhnggaaGreatDoor
open Go.RowKit Go.Proofs.Tryz
theorem mZ:qOf gZ=0:=by rw [fZ,ci]
theorem Jt (n:Int) (w:World) (h0: -9223372036854775808<=n) (h1:n<=9223372036854775807):Calls prog 14 #[.int .i64 n] w fun e w'=>e= .returned (aF (enc (n:Rat)))/\Below w.heap.size w w':=by
 have I:=hid (fun w=>L9 n w h0 h1);have HX:=hid (Bx1.new w);generalize enc (n:Rat)=a at *
 unfold aF at I;unfold aF;go_enter func14,ntmps14
 go_wp2_with fail
 refine Calls.mono (I.out _) ?_;rintro e w1 ⟨rfl,hb1⟩;have hx:=HX.out.next hb1;obtain ⟨t0,t1,t2,t3,t4⟩:=hx.1.facts;go_wp2
 refine bw (hx.ret a).1 (fun W' c0 c1 c2=>by simp [results,Tryz.results14,go_sem,c0,c1,c2]) rfl ⟨rfl,(hx.ret a).2⟩
theorem C8 (a b:Nat) (w:World) (ha:a<=9223372036854775807) (hb:b<=9223372036854775807) (hd:0<b):
  Calls prog 40 #[.int .i64 a,.int .i64 b] w fun e w'=>e= .returned (aF (enc (mkRat (a:Int) b)))/\Below w.heap.size w w':=by
 have F:=hid (fun w=>tq a b w ha hb hd);have HX:=hid (Bx1.new w);generalize enc (mkRat (a:Int) b)=q at *
 unfold aF at F;unfold aF;go_enter func40,ntmps40
 go_wp2_with fail
 refine Calls.mono (F.out _) ?_;rintro e w1 ⟨rfl,hb1⟩;have hx:=HX.out.next hb1;obtain ⟨t0,t1,t2,t3,t4⟩:=hx.1.facts;have S:=hid (hx.1.put q);have hbx:=hid (iu hx.2 (Nat.le_refl _) q);go_wp2
 refine bw (Blk3.alloc S.out _) (fun W' c0 c1 c2=>by simp [results,Tryz.results40,go_sem,c0,c1,c2]) rfl ⟨rfl,hbx.out.alloc (Below.size hbx.out) _⟩
theorem Lg (x:Nat) (w:World) (hx:x<65536):Calls prog 30 #[.int .u16 x] w fun e w'=>e= .returned (aF (enc (kG x)))/\Below w.heap.size w w':=by
 have HX:=hid (Bx1.new w);by_cases h0:x%5=0
 ·have e0:((x:Int)%5==0)=true:=by simp;omega
  have R:=C8 (x/5%23) (1+x/115%6);have hq:kG x=mkRat ((x/5%23:Nat):Int) (1+x/115%6):=by unfold kG;rw [if_pos h0]
  rw [←hq] at R;rw [show (((x/5%23:Nat)):Int)=(x:Int)/5%23 by omega,show (((1+x/115%6:Nat)):Int)=1+(x:Int)/115%6 by omega] at R;have RR:=hid (fun w=>R w (by omega) (by omega) (by omega));generalize enc (kG x)=q at *
  clear R hq;unfold aF at RR;unfold aF;go_enter func30,ntmps30
  go_wp2_with fail
  refine Calls.mono (RR.out _) ?_;rintro e w1 ⟨rfl,hb1⟩;have hx:=HX.out.next hb1;obtain ⟨t0,t1,t2,t3,t4⟩:=hx.1.facts;go_wp2
  refine bw (hx.ret q).1 (fun W' c0 c1 c2=>by simp [results,Tryz.results30,go_sem,c0,c1,c2]) rfl ⟨rfl,(hx.ret q).2⟩
 have e0:((x:Int)%5==0)=false:=by simp;omega
 by_cases h1:x%5=1
 ·have e1:((x:Int)%5==1)=true:=by simp;omega
  have R:=Jt (10*((x:Int)/5%4));have hq:kG x=(((10*((x:Int)/5%4)):Int):Rat):=by unfold kG;rw [if_neg h0,if_pos h1];congr 1
  rw [←hq] at R;have RR:=hid (fun w=>R w (by omega) (by omega));generalize enc (kG x)=q at *
  clear R hq;unfold aF at RR;unfold aF;go_enter func30,ntmps30
  go_wp2_with fail
  refine Calls.mono (RR.out _) ?_;rintro e w1 ⟨rfl,hb1⟩;have hx:=HX.out.next hb1;obtain ⟨t0,t1,t2,t3,t4⟩:=hx.1.facts;go_wp2
  refine bw (hx.ret q).1 (fun W' c0 c1 c2=>by simp [results,Tryz.results30,go_sem,c0,c1,c2]) rfl ⟨rfl,(hx.ret q).2⟩
 have e1:((x:Int)%5==1)=false:=by simp;omega
 have R:=Jt ((x:Int)/5%13);have hq:kG x=((((x:Int)/5%13):Int):Rat):=by unfold kG;rw [if_neg h0,if_neg h1];congr 1
 rw [←hq] at R;have RR:=hid (fun w=>R w (by omega) (by omega));generalize enc (kG x)=q at *
 clear R hq;unfold aF at RR;unfold aF;go_enter func30,ntmps30
 go_wp2_with fail
 refine Calls.mono (RR.out _) ?_;rintro e w1 ⟨rfl,hb1⟩;have hx:=HX.out.next hb1;obtain ⟨t0,t1,t2,t3,t4⟩:=hx.1.facts;go_wp2
 refine bw (hx.ret q).1 (fun W' c0 c1 c2=>by simp [results,Tryz.results30,go_sem,c0,c1,c2]) rfl ⟨rfl,(hx.ret q).2⟩
end Go.Proofs.YtokmkopihhnggaaGreatDoor
