/- Few: what is short enough for a law; walked by the abstract machine. -/
import Derived.Test.YtokmkopihhnggaaGreatDoorLawM
import Derived.Test.YtokmkopihhnggaaGreatDoorRw5M
set_option linter.unusedVariables false
set_option maxHeartbeats 4000000
set_option maxRecDepth 100000
set_option linter.unusedSimpArgs false
set_option linter.defProp false
namespace Go.Proofs.YtokmkopihhnggaaGreatDoor
open Go Go.RowKit Go.Proofs.Tryz

def jU (x:GOpt):List C:=[.lit (.bool x.amount.neg),.lit (.string x.amount.num),.lit (.string x.amount.den),.lit (.int .i64 x.rank)]
def de (d:GDisp):List C:=[.lit (.int .i64 d.est),.lit (.int .i64 d.cl),.sh 4 d.opts.length (aA jU d.opts)]
theorem lf (x:GOpt):(jU x).length=4:=rfl
theorem gB (x:GDisp):(de x).length=3:=rfl
theorem ld (x:GOpt):al (jU x)=true:=rfl
theorem eq (x:GDisp):al (de x)=true:=by simp [de,al,ax,ab ld]
def exB (g:GGrp) (i c:Int):Bool:=if (0:Int)<=i then (if i<(g.ests.length:Int) then (if (0:Int)<=c then decide (c<((g.ests.getD i.toNat gr).claims.length:Int)) else false) else false) else false
noncomputable def opL:List GOpt->Int
 |[]=>0
 |x::l=>if x.rank<0 then 1 else if (7:Int)<x.rank then 1 else if cU (qOf x.amount)<0 then 7 else opL l
noncomputable def opE (l:List GOpt):Int:=if (l.length:Int)=0 then 21 else if (4:Int)<(l.length:Int) then 2 else opL l
def j1 (d:GDisp):Leg:=(d.est,d.cl)
open Classical in
noncomputable def j2 (g:GGrp) (T:List Leg) (d:GDisp):Int:=if exB g d.est d.cl=true then (if j1 d∈T then 12 else opE d.opts) else 1
noncomputable def dkL (g:GGrp):List Leg->List GDisp->Int
 |_,[]=>0
 |T,d::l=>if j2 g T d=0 then dkL g (T++[j1 d]) l else j2 g T d
def cnL:List GDisp->Int->Int
 |[],n=>n
 |d::l,n=>cnL l (min (n*min (d.opts.length:Int) 4097) 4097)
noncomputable def dcS (gc:Int) (g:GGrp) (l:List GDisp):Int:=if gc=0 then (if (8:Int)<(l.length:Int) then 2 else if dkL g [] l=0 then (if (4096:Int)<cnL l 1 then 2 else 0) else dkL g [] l) else gc
def zg (l:List GDisp):Prop:=l.length<=1000000/\∀d∈l,d.opts.length<=1000000/\∀x∈d.opts,jh x.amount
def F38:=And.intro zS (And.intro Gd (And.intro Ep (And.intro CF (And.intro tu (And.intro BK (And.intro vg (And.intro Eq (And.intro tv (And.intro mN (jz))))))))))
theorem F39:type_of%F38:=F38
theorem J5 (g:GGrp) (l:Leg):aR prog 110 [.agg (am g),.agg (gp l)] (one (.bool (exB g l.1 l.2))):=by
 refine aP func110 rfl (by decide) (N:=34) rfl (by simp) (R:=[.tmp 4]) rfl fun en k0=>?_
 refine awN ?_;simp only [F39,seval,am,gp];repeat refine ob ?_
 by_cases h1:(0:Int)<=l.1
 ·by_cases h2:l.1<(g.ests.length:Int)
  ·by_cases h3:(0:Int)<=l.2
   ·obtain ⟨j,hj⟩:∃j:Nat,l.1=j:=⟨l.1.toNat,by omega⟩;have hjl:j<g.ests.length:=by omega
    have hat:=aO i4 g.ests j hjl;rw [hj] at h1 h2;have hgd:g.ests[j]?.getD gr=g.ests[j]:=by rw [List.getElem?_eq_getElem hjl];rfl
    refine awD (scT 0 30 .nil) [0,0,0,0,19,19,19,19,19,19,0,0,35,35,35,0,0,45,45,45,45,45,45,45,45,45,45,45,0,0] ?_;simp only [F39,seval,am,gp,h1,h2,h3,hj,hat,aJ];repeat refine ob ?_
    refine awX ?_;simp only [F39,seval];simp [exB,hj,hgd,h1,h2,h3]
   refine awD (scT 0 30 .nil) [0,0,0,0,19,19,19,19,19,19,0,0,35,35,35,0,0,45,45,45,45,45,45,45,45,45,45,45,0,0] ?_;simp only [F39,seval,am,gp,h1,h2,h3];repeat refine ob ?_
   refine awX ?_;simp only [F39,seval];simp [exB,h1,h2,h3]
  refine awD (scT 0 30 .nil) [0,0,0,0,19,19,19,19,19,19,0,0,35,35,35,0,0,45,45,45,45,45,45,45,45,45,45,45,0,0] ?_;simp only [F39,seval,am,gp,h1,h2];repeat refine ob ?_
  refine awX ?_;simp only [F39,seval];simp [exB,h1,h2]
 refine awD (scT 0 30 .nil) [0,0,0,0,19,19,19,19,19,19,0,0,35,35,35,0,0,45,45,45,45,45,45,45,45,45,45,45,0,0] ?_;simp only [F39,seval,am,gp,h1];repeat refine ob ?_
 refine awX ?_;simp only [F39,seval];simp [exB,h1]
def F40:=And.intro zS (And.intro Gd (And.intro Ep (And.intro CF (And.intro tu (And.intro BK (And.intro vg (And.intro Eq (And.intro tv (And.intro mN (jz))))))))))
theorem F41:type_of%F40:=F40
theorem J6 (g:GGrp) (l:Leg):aR prog 155 [.agg (am g),.agg (gp l)] (one (.bool (exB g l.1 l.2))):=by
 refine aP func155 rfl (by decide) (N:=34) rfl (by simp) (R:=[.tmp 4]) rfl fun en k0=>?_
 refine awN ?_;simp only [F41,seval,am,gp];repeat refine ob ?_
 by_cases h1:(0:Int)<=l.1
 ·by_cases h2:l.1<(g.ests.length:Int)
  ·by_cases h3:(0:Int)<=l.2
   ·obtain ⟨j,hj⟩:∃j:Nat,l.1=j:=⟨l.1.toNat,by omega⟩;have hjl:j<g.ests.length:=by omega
    have hat:=aO i4 g.ests j hjl;rw [hj] at h1 h2;have hgd:g.ests[j]?.getD gr=g.ests[j]:=by rw [List.getElem?_eq_getElem hjl];rfl
    refine awD (scT 0 30 .nil) [0,0,0,0,19,19,19,19,19,19,0,0,35,35,35,0,0,45,45,45,45,45,45,45,45,45,45,45,0,0] ?_;simp only [F41,seval,am,gp,h1,h2,h3,hj,hat,aJ];repeat refine ob ?_
    refine awX ?_;simp only [F41,seval];simp [exB,hj,hgd,h1,h2,h3]
   refine awD (scT 0 30 .nil) [0,0,0,0,19,19,19,19,19,19,0,0,35,35,35,0,0,45,45,45,45,45,45,45,45,45,45,45,0,0] ?_;simp only [F41,seval,am,gp,h1,h2,h3];repeat refine ob ?_
   refine awX ?_;simp only [F41,seval];simp [exB,h1,h2,h3]
  refine awD (scT 0 30 .nil) [0,0,0,0,19,19,19,19,19,19,0,0,35,35,35,0,0,45,45,45,45,45,45,45,45,45,45,45,0,0] ?_;simp only [F41,seval,am,gp,h1,h2];repeat refine ob ?_
  refine awX ?_;simp only [F41,seval];simp [exB,h1,h2]
 refine awD (scT 0 30 .nil) [0,0,0,0,19,19,19,19,19,19,0,0,35,35,35,0,0,45,45,45,45,45,45,45,45,45,45,45,0,0] ?_;simp only [F41,seval,am,gp,h1];repeat refine ob ?_
 refine awX ?_;simp only [F41,seval];simp [exB,h1]
def F42:=And.intro zS (And.intro Ew (And.intro Hu (And.intro Hv (And.intro Hw (And.intro Hx (And.intro Gk (And.intro Gl (And.intro pr (And.intro jz (Ex))))))))))
theorem F43:type_of%F42:=F42
theorem M8 (d:GDisp) (hd:d.opts.length<=1000000/\∀x∈d.opts,jh x.amount):aR prog 111 [.agg (de d)] (one (.int .i64 (opE d.opts))):=by
 refine aP func111 rfl (by decide) (N:=33) rfl (by simp) (R:=[.tmp 2]) rfl fun en k0=>?_
 refine awN ?_;simp only [F43,seval,de];repeat refine ob ?_
 by_cases h1:(d.opts.length:Int)=0
 ·refine awN ?_;simp only [F43,seval,de,h1];repeat refine ob ?_
  refine awT ?_;refine awN ?_;simp only [F43,seval,de,h1];repeat refine ob ?_
  refine awX ?_;(first|(simp only [F43,seval,de,opE,h1];done)|(simp only [F43,seval,de];first|(simp [opE,h1];done)))
 refine awN ?_;simp only [F43,seval,de,h1];repeat refine ob ?_
 refine awF ?_;refine awK ?_;simp only [F43,seval];by_cases h2:(4:Int)<(d.opts.length:Int)
 ·refine awN ?_;simp only [F43,seval,de,h1,h2];repeat refine ob ?_
  refine awT ?_;refine awN ?_;simp only [F43,seval,de,h1,h2];repeat refine ob ?_
  refine awX ?_;(first|(simp only [F43,seval,de,opE,h1,h2];done)|(simp only [F43,seval,de];first|(simp [opE,h1,h2];done)))
 refine awN ?_;simp only [F43,seval,de,h1,h2];repeat refine ob ?_
 refine awF ?_;refine awK ?_;simp only [F43,seval];refine awN ?_;simp only [F43,seval,de,h1,h2];repeat refine ob ?_
 refine aQ [1,2,14,15,16] [1] ?_;try simp only [ak,F43,seval,de,h1,h2]
 repeat' first|apply awS|apply awB
 refine aM (fun n st=>∃i0 nx,i0<=d.opts.length/\n=d.opts.length-i0/\opL (d.opts.drop i0)=opL d.opts/\st=⟨mkT [(1,.val (.one (.ptr 1 0 0))),(2,one (.int .i64 0)),(14,.val (.one (.sh 4 d.opts.length (aA jU d.opts)))),(15,one (.int .i64 d.opts.length)),(16,one (.int .i64 i0))],mkH [(1,⟨0,109,3,1,de d⟩)],nx,0⟩) (d.opts.length) ⟨0,_,by omega,by omega,by rfl,rfl⟩ ?_;rintro n0 st ⟨i0,nx0,hk0,rfl,hL0,rfl⟩;by_cases hlt0:i0<d.opts.length
 ·have hI0:(i0:Int)<(d.opts.length:Int):=by omega
  have hat0:=aO lf d.opts i0 hlt0;try rw [Nat.mul_one] at hat0
  rw [List.drop_eq_getElem_cons hlt0] at hL0;have hr:=hd.2 _ (List.getElem_mem hlt0);generalize d.opts[i0]=x at *
  simp only [opL] at hL0;refine awN ?_;simp only [F43,seval,de,h1,h2,hI0,hat0];repeat refine ob ?_
  refine awT ?_;refine awK ?_;simp only [F43,seval];refine awN ?_;simp only [F43,seval,de,h1,h2,hI0,hat0,jU];repeat refine ob ?_
  by_cases h3:x.rank<0
  ·refine awR [] [0,0,0,0,48,48,48,0] ?_;simp only [F43,seval,de,h1,h2,hI0,hat0,h3,jU];repeat refine ob ?_
   refine awT ?_;refine awN ?_;simp only [F43,seval,de,h1,h2,hI0,hat0,h3];repeat refine ob ?_
   refine awX ?_;(first|(simp only [F43,seval,de,opE,h1,h2,hI0,hat0,h3,←hL0];done)|(simp only [F43,seval,de];first|(simp [opE,h1,h2,hI0,hat0,h3,←hL0];done)|(simp [opE,h1,h2,hI0,hat0,h3];done)|(rw [←hL0];simp [opE,h1,h2,hI0,hat0,h3];done)))
  by_cases h4:(7:Int)<x.rank
  ·refine awR [] [0,0,0,0,48,48,48,0] ?_;simp only [F43,seval,de,h1,h2,hI0,hat0,h3,h4,jU];repeat refine ob ?_
   refine awT ?_;refine awN ?_;simp only [F43,seval,de,h1,h2,hI0,hat0,h3,h4];repeat refine ob ?_
   refine awX ?_;(first|(simp only [F43,seval,de,opE,h1,h2,hI0,hat0,h3,h4,←hL0];done)|(simp only [F43,seval,de];first|(simp [opE,h1,h2,hI0,hat0,h3,h4,←hL0];done)|(simp [opE,h1,h2,hI0,hat0,h3,h4];done)|(rw [←hL0];simp [opE,h1,h2,hI0,hat0,h3,h4];done)))
  refine awR [] [0,0,0,0,48,48,48,0] ?_;simp only [F43,seval,de,h1,h2,hI0,hat0,h3,h4,jU];repeat refine ob ?_
  refine awF ?_;refine awK ?_;simp only [F43,seval];by_cases h5:cU (qOf x.amount)<0
  ·refine awN ?_;simp only [F43,seval,de,h1,h2,hI0,hat0,h3,h4,h5,jU];repeat refine ob ?_
   refine ⟨_,(yZ x.amount hr.1 hr.2),rfl,?_⟩;try simp only [ak,F43,seval,de,h1,h2,hI0,hat0,h3,h4,h5,jU]
   repeat refine ob ?_
   refine awT ?_;refine awN ?_;simp only [F43,seval,de,h1,h2,hI0,hat0,h3,h4,h5];repeat refine ob ?_
   refine awX ?_;(first|(simp only [F43,seval,de,opE,h1,h2,hI0,hat0,h3,h4,h5,←hL0];done)|(simp only [F43,seval,de];first|(simp [opE,h1,h2,hI0,hat0,h3,h4,h5,←hL0];done)|(simp [opE,h1,h2,hI0,hat0,h3,h4,h5];done)|(rw [←hL0];simp [opE,h1,h2,hI0,hat0,h3,h4,h5];done)))
  refine awN ?_;simp only [F43,seval,de,h1,h2,hI0,hat0,h3,h4,h5,jU];repeat refine ob ?_
  refine ⟨_,(yZ x.amount hr.1 hr.2),rfl,?_⟩;try simp only [ak,F43,seval,de,h1,h2,hI0,hat0,h3,h4,h5,jU]
  repeat refine ob ?_
  refine awF ?_;refine awK ?_;simp only [F43,seval];refine awN ?_;simp only [F43,seval,de,h1,h2,hI0,hat0,h3,h4,h5];repeat refine ob ?_
  repeat refine ob ?_
  refine ⟨_,aI [1,2,14,15,16] [1],d.opts.length-(i0+1),by omega,i0+1,?a24_nx,by omega,rfl,?i24_0,?st24⟩;case st24=>(simp only [F43,seval,de,h1,h2,hI0,hat0,h3,h4,h5];first|rfl|(simp [h1,h2,hI0,hat0,h3,h4,h5,Nat.add_mul];done))
  case i24_0=>(first|exact hL0|(rw [←hL0];simp only [reduceIte,h1,h2,hI0,hat0,h3,h4,h5];done)|(rw [←hL0];simp [h1,h2,hI0,hat0,h3,h4,h5];done)|(simp [h1,h2,hI0,hat0,h3,h4,h5] at hL0;simpa using hL0)|(rw [←hL0];simp [*];done))
 obtain rfl:i0=d.opts.length:=by omega
 have hI0:¬(d.opts.length:Int)<(d.opts.length:Int):=by omega
 rw [List.drop_length] at hL0;simp only [opL] at hL0;refine awN ?_;simp only [F43,seval,de,h1,h2,hI0];repeat refine ob ?_
 refine awF ?_;refine awQ ?_;simp only [F43,seval];refine awN ?_;simp only [F43,seval,de,h1,h2,hI0];repeat refine ob ?_
 refine awX ?_;(first|(simp only [F43,seval,de,opE,h1,h2,hI0,←hL0];done)|(simp only [F43,seval,de];first|(simp [opE,h1,h2,hI0,←hL0];done)|(simp [opE,h1,h2,hI0];done)|(rw [←hL0];simp [opE,h1,h2,hI0];done)))
def F44:=And.intro zS (And.intro Lf (And.intro CI (And.intro Hu (And.intro Hv (And.intro Gk (And.intro I2 (A0)))))))
theorem F45:type_of%F44:=F44
theorem KH (l:List GDisp) (hl:zg l):aR prog 57 [.one (.sh 3 l.length (aA de l))] (one (.int .i64 (cnL l 1))):=by
 have hl1:=hl.1;refine aP func57 rfl (by decide) (N:=21) rfl (by simp) (R:=[.tmp 2]) rfl fun en k0=>?_
 refine awN ?_;simp only [F45,seval];repeat refine ob ?_
 refine awN ?_;simp only [F45,seval];repeat refine ob ?_
 refine awN ?_;simp only [F45,seval];repeat refine ob ?_
 refine aQ [2,3,6,7,8] [] ?_;try simp only [ak,F45,seval]
 repeat' first|apply awS|apply awB
 refine aM (fun n st=>∃i0 a nx,i0<=l.length/\n=l.length-i0/\cnL (l.drop i0) a=cnL l 1/\0<=a/\a<=4097/\st=⟨mkT [(2,one (.int .i64 0)),(3,one (.int .i64 a)),(6,.val (.one (.sh 3 l.length (aA de l)))),(7,one (.int .i64 l.length)),(8,one (.int .i64 i0))],mkH [],nx,0⟩) (l.length) ⟨0,1,_,by omega,by omega,by rfl,(by first|omega|assumption|rfl|simp|(simp;omega)),(by first|omega|assumption|rfl|simp|(simp;omega)),rfl⟩ ?_;rintro n0 st ⟨i0,a,nx0,hk0,rfl,hL0,hV0_1,hV0_2,rfl⟩;by_cases hlt0:i0<l.length
 ·skip;have hI0:(i0:Int)<(l.length:Int):=by omega
  have hat0:=aO gB l i0 hlt0;try rw [Nat.mul_one] at hat0
  rw [List.drop_eq_getElem_cons hlt0] at hL0;have hd1:=hl.2 _ (List.getElem_mem hlt0);have hm0:0<=a*min (l[i0].opts.length:Int) 4097:=Int.mul_nonneg hV0_1 (by omega);have hm1:a*min (l[i0].opts.length:Int) 4097<=4097*4097:=Int.mul_le_mul hV0_2 (by omega) (by omega) (by omega);generalize l[i0]=d at *
  simp only [cnL] at hL0;refine awN ?_;simp only [F45,seval,hI0,hat0];repeat refine ob ?_
  refine awT ?_;refine awK ?_;simp only [F45,seval];refine awN ?_;simp only [F45,seval,hI0,hat0,de];repeat refine ob ?_
  refine awN ?_;simp only [F45,seval,hI0,hat0,de];repeat refine ob ?_
  refine awN ?_;simp only [F45,seval,hI0,hat0];repeat refine ob ?_
  repeat refine ob ?_
  refine ⟨_,aI [2,3,6,7,8] [],l.length-(i0+1),by omega,i0+1,(min (a*min (d.opts.length:Int) 4097) 4097),?a7_nx,by omega,rfl,?i7_0,?i7_1,?i7_2,?st7⟩;case st7=>(simp only [F45,seval,hI0,hat0];first|rfl|(simp [hI0,hat0,Nat.add_mul];done))
  case i7_0=>(first|exact hL0|(rw [←hL0];simp only [reduceIte,hI0,hat0];done)|(rw [←hL0];simp [hI0,hat0];done)|(simp [hI0,hat0] at hL0;simpa using hL0)|(rw [←hL0];simp [*];done))
  all_goals (first|omega|assumption|(simp;omega)|(simp_all;done))
 skip;obtain rfl:i0=l.length:=by omega
 have hI0:¬(l.length:Int)<(l.length:Int):=by omega
 rw [List.drop_length] at hL0;simp only [cnL] at hL0;refine awN ?_;simp only [F45,seval,hI0];repeat refine ob ?_
 refine awF ?_;refine awQ ?_;simp only [F45,seval];refine awN ?_;simp only [F45,seval,hI0];repeat refine ob ?_
 refine awX ?_;(first|(simp only [F45,seval,hI0,←hL0];done)|(simp only [F45,seval];first|(simp [hI0,←hL0];done)|(simp [hI0];done)|(rw [←hL0];simp [hI0];done)))
end Go.Proofs.YtokmkopihhnggaaGreatDoor
