/- Acts of one row: two acts, whatever they are; walked by the abstract machine. -/
import Derived.Test.YtclkgcigacbmiaaGreatDoorDi1M
import Derived.Test.YtclkgcigacbmiaaGreatDoorAbWM
set_option linter.unusedVariables false
set_option maxHeartbeats 4000000
set_option maxRecDepth 100000
set_option linter.unusedSimpArgs false
set_option linter.defProp false
namespace Go.Proofs.YtclkgcigacbmiaaGreatDoor
open Go Go.RowKit Go.Proofs.Tryz
def F10:=And.intro zS (And.intro zv (And.intro zw (And.intro yw (And.intro yy (And.intro zz (And.intro zA (And.intro zB (And.intro zC (And.intro yz (And.intro tP (And.intro yq (And.intro yr (And.intro zD (And.intro zE (And.intro zF (And.intro zG (And.intro yu (And.intro yv (And.intro zH (And.intro yA (And.intro zI (zJ))))))))))))))))))))))
theorem F11:type_of%F10:=F10
theorem xo (x0 x1 x2 x3 x4:Nat) (hx0:x0<65536) (hx1:x1<65536) (hx2:x2<65536) (hx3:x3<65536) (hx4:x4<65536) (H:Hp) (ny s12:Nat) (hbH:∀y B,H y=some B->y<100) (h12:H 12=some ⟨s12,23,5,1,[.lit (.int .u16 (x0:Int)),.lit (.int .u16 (x1:Int)),.lit (.int .u16 (x2:Int)),.lit (.int .u16 (x3:Int)),.lit (.int .u16 (x4:Int))]⟩):
  ACallI prog 5 [.one (.own 12 s12 1 5),.one (.lit (.int .i64 2))] H ny (fun res H' _=>∃s cs,cs.length=28/\res= .val (.one (.own 4187 s 2 14))/\H'=lD H [(4187,⟨s,52,14,2,cs⟩)]):=by
 have w12:(x0:Int).tmod 12=((x0%12:Nat):Int):=by norm_cast
 have w13:(x1:Int).tmod 3=((x1%3:Nat):Int):=by norm_cast
 have w22:(x2:Int).tmod 2=((x2%2:Nat):Int):=by norm_cast
 have w25:(x2:Int).tmod 5=((x2%5:Nat):Int):=by norm_cast
 have w23:(x2:Int).tmod 3=((x2%3:Nat):Int):=by norm_cast
 have w24:(x2:Int).tmod 4=((x2%4:Nat):Int):=by norm_cast
 have w29:(x2:Int).tmod 9=((x2%9:Nat):Int):=by norm_cast
 have w34:(x3:Int).tmod 4=((x3%4:Nat):Int):=by norm_cast
 have w37:(x3:Int).tmod 7=((x3%7:Nat):Int):=by norm_cast
 have w33:(x3:Int).tmod 3=((x3%3:Nat):Int):=by norm_cast
 have w32:(x3:Int).tmod 2=((x3%2:Nat):Int):=by norm_cast
 have w35:(x3:Int).tmod 5=((x3%5:Nat):Int):=by norm_cast
 have w46:(x4:Int).tmod 6=((x4%6:Nat):Int):=by norm_cast
 have d22:IntKind.u16.wrap ((x2:Int).tdiv 2)=((x2/2:Nat):Int):=by
  have h:=mT (x2/2) (by omega);rw [show (x2:Int).tdiv 2=((x2/2:Nat):Int) by norm_cast,h]
 have d37:IntKind.u16.wrap ((x3:Int).tdiv 7)=((x3/7:Nat):Int):=by
  have h:=mT (x3/7) (by omega);rw [show (x3:Int).tdiv 7=((x3/7:Nat):Int) by norm_cast,h]
 have d0c:IntKind.u16.wrap ((x0:Int).tdiv 12)=((x0/12:Nat):Int):=by
  have h:=mT (x0/12) (by omega);rw [show (x0:Int).tdiv 12=((x0/12:Nat):Int) by norm_cast,h]
 have w372:((x3/7:Nat):Int).tmod 2=((x3/7%2:Nat):Int):=by norm_cast
 have w0c8:((x0/12:Nat):Int).tmod 8=((x0/12%8:Nat):Int):=by norm_cast
 have w0c7:IntKind.u16.wrap (((x0/12%8:Nat):Int).tdiv 7)=((x0/12%8/7:Nat):Int):=by
  have h:=mT (x0/12%8/7) (by omega);rw [show ((x0/12%8:Nat):Int).tdiv 7=((x0/12%8/7:Nat):Int) by norm_cast,h]
 have w6:(6:Int)*((x0/12%8/7:Nat):Int)=((6*(x0/12%8/7):Nat):Int):=by norm_cast
 obtain ⟨z,hz9,hz⟩:∃z,z=x2/2*(x2%2)/\z<65536:=by
  refine ⟨_,rfl,?_⟩;rcases Nat.mod_two_eq_zero_or_one x2 with h|h<;>rw [h]<;>omega
 have wz:IntKind.u16.wrap (((x2/2:Nat):Int)*((x2%2:Nat):Int))=(z:Int):=by
  have h:=mT z hz;rw [←h,hz9];norm_cast
 have hWh:=wR 40 (by decide) (by decide);have h12x:(∃B,H 12=some B/\B.st=s12)=True:=eq_true ⟨_,h12,rfl⟩;refine fb 4174 func5 rfl (by decide) (N:=190) rfl (by simp) (Rl:=[.tmp 4]) rfl fun en k0=>?_
 refine awN ?_;simp only [F11,seval];repeat refine ob ?_
 refine awN ?_;simp only [F11,seval];repeat refine ob ?_
 refine ⟨_,hWh,rfl,?_⟩;try simp only [aZ,F11,seval,bk]
 repeat refine ob ?_
 refine wQ 4000 ?_;dsimp only;refine awN ?_;simp only [F11,seval];repeat refine ob ?_
 refine awN ?_;simp only [F11,seval,h12x];repeat refine ob ?_
 refine fW H [1,5,6,14,15,16] [4187] (by intro y B h;right;have h9:=hbH y B h;simp only [aj];(repeat rw [if_neg (by omega)]);exact h) ?_;try simp only [aZ,F11,seval]
 repeat' first|apply awS|apply awB
 refine hJ (fun n st=>∃j cl s cs nx,j<=1/\n=1-j/\cl<=j/\cs.length=(j+1)*14/\st=⟨mkT [(1,one (.int .i64 2)),(5,.val (.one (.own 4187 s (j+1) 14))),(6,one (.int .i64 cl)),(14,.val (.one (.own 12 s12 1 5))),(15,one (.int .i64 1)),(16,one (.int .i64 j))],lD H [(4187,⟨s,52,14,j+1,cs⟩)],nx,4000⟩) (1) ⟨0,0,_,_,_,by omega,by omega,by omega,(by rfl),rfl⟩ ?_;rintro n0 st ⟨j,cl,s,cs,nx0,hj,rfl,hclj,hcs,rfl⟩;by_cases hlt0:(j:Int)<1
 ·refine awN ?_;simp only [F11,seval,hlt0];repeat refine ob ?_
  refine awT ?_;refine awK ?_;simp only [F11,seval];have hj0:j=0:=by omega
  subst hj0;have hcl0:cl=0:=by omega
  subst hcl0;simp only [Nat.zero_add,Nat.one_mul] at hcs;refine awN ?_;simp only [F11,seval,h12];repeat refine ob ?_
  refine awN ?_;simp only [F11,seval];repeat refine ob ?_
  refine awF ?_;refine awK ?_;simp only [F11,seval];refine awN ?_;simp only [F11,seval];repeat refine ob ?_
  refine awN ?_;simp only [F11,seval,w13];repeat refine ob ?_
  refine sl (M:=fun st=>∃cl2 t9 a0 a1 a2 a3 a4 a5 a6 a7 a8 a9 a10 a11 a12 a13 nx,(cl2<=1)/\st=⟨mkT [(1,one (.int .i64 2)),(5,.val (.one (.own 4187 s 1 14))),(6,one (.int .i64 ((cl2:Nat):Int))),(9,.val (.one (.ptr 4009 t9 0))),(14,.val (.one (.own 12 s12 1 5))),(15,one (.int .i64 1)),(16,one (.int .i64 (0:Int)))],lD H [(4187,⟨s,52,14,1,cs⟩),(4009,⟨t9,52,14,1,[a0,a1,a2,a3,a4,a5,a6,a7,a8,a9,a10,a11,a12,a13]⟩)],nx,4000⟩) ?_ ?_
  ·refine awN ?_;simp only [F11,seval,w12];repeat refine ob ?_
   by_cases c0:((x0%12:Nat):Int)=0
   ·have y0:x0%12=0:=by omega
    refine awN ?_;simp only [F11,seval,c0];repeat refine ob ?_
    refine awT ?_;refine awD (scq [1,3] (scT 3 7 (scq [4,20,23,24] .nil))) [0,0,0,0,0,0,0,0,0,0,0,0,0] ?_;simp only [F11,seval,d22,w22,wz];repeat refine ob ?_
    refine ⟨_,(cp x1 hx1),rfl,?_⟩;try simp only [aZ,F11,seval,bk]
    repeat refine ob ?_
    refine ⟨_,(cp z hz),rfl,?_⟩;try simp only [aZ,F11,seval,bk]
    repeat refine ob ?_
    intro zc zQ hM;refine aN (aM H [1,5,6,9,14,15,16] [4187,4009] (by intro y B h;right;have h9:=hbH y B h;simp only [aj];(repeat rw [if_neg (by omega)]);exact h)) (hM _ ⟨0,?_,?_,?_,?_,?_,?_,?_,?_,?_,?_,?_,?_,?_,?_,?_,?_,(by decide),?cs12⟩);case cs12=>(simp only [F11,seval];rfl)
   have y0:¬x0%12=0:=by omega
   refine awN ?_;simp only [F11,seval,c0];repeat refine ob ?_
   refine awF ?_;by_cases c1:((x0%12:Nat):Int)=1
   ·have y1:x0%12=1:=by omega
    refine awN ?_;simp only [F11,seval,c1];repeat refine ob ?_
    refine awT ?_;refine awK ?_;simp only [F11,seval];refine awT ?_;refine awD (scT 0 12 (scq [24,27,28] .nil)) [0,0,0,0,0,0,0,0,0,0,0,0,0,0,0] ?_;simp only [F11,seval,w25,w34];repeat refine ob ?_
    refine ⟨_,(cp x4 hx4),rfl,?_⟩;try simp only [aZ,F11,seval,bk]
    repeat refine ob ?_
    by_cases hh:((x2%5:Nat):Int)-2< -1
    ·refine awN ?_;simp only [F11,seval,hh];repeat refine ob ?_
     refine awT ?_;refine awN ?_;simp only [F11,seval];repeat refine ob ?_
     by_cases h7:((x3%7:Nat):Int)=6
     ·refine awN ?_;simp only [F11,seval,h7,w37];repeat refine ob ?_
      refine awT ?_;refine awN ?_;simp only [F11,seval,d37,w372];repeat refine ob ?_
      refine awN ?_;simp only [F11,seval];repeat refine ob ?_
      intro zc zQ hM;refine aN (aM H [1,5,6,9,14,15,16] [4187,4009] (by intro y B h;right;have h9:=hbH y B h;simp only [aj];(repeat rw [if_neg (by omega)]);exact h)) (hM _ ⟨1,?_,?_,?_,?_,?_,?_,?_,?_,?_,?_,?_,?_,?_,?_,?_,?_,(by decide),?cs21⟩);case cs21=>(simp only [F11,seval];rfl)
     refine awN ?_;simp only [F11,seval,h7,w37];repeat refine ob ?_
     refine awF ?_;refine awK ?_;simp only [F11,seval];refine awN ?_;simp only [F11,seval];repeat refine ob ?_
     intro zc zQ hM;refine aN (aM H [1,5,6,9,14,15,16] [4187,4009] (by intro y B h;right;have h9:=hbH y B h;simp only [aj];(repeat rw [if_neg (by omega)]);exact h)) (hM _ ⟨1,?_,?_,?_,?_,?_,?_,?_,?_,?_,?_,?_,?_,?_,?_,?_,?_,(by decide),?cs24⟩);case cs24=>(simp only [F11,seval];rfl)
    refine awN ?_;simp only [F11,seval,hh];repeat refine ob ?_
    refine awF ?_;refine awK ?_;simp only [F11,seval];by_cases h7:((x3%7:Nat):Int)=6
    ·refine awN ?_;simp only [F11,seval,h7,w37];repeat refine ob ?_
     refine awT ?_;refine awN ?_;simp only [F11,seval,d37,w372];repeat refine ob ?_
     refine awN ?_;simp only [F11,seval];repeat refine ob ?_
     intro zc zQ hM;refine aN (aM H [1,5,6,9,14,15,16] [4187,4009] (by intro y B h;right;have h9:=hbH y B h;simp only [aj];(repeat rw [if_neg (by omega)]);exact h)) (hM _ ⟨1,?_,?_,?_,?_,?_,?_,?_,?_,?_,?_,?_,?_,?_,?_,?_,?_,(by decide),?cs29⟩);case cs29=>(simp only [F11,seval];rfl)
    refine awN ?_;simp only [F11,seval,h7,w37];repeat refine ob ?_
    refine awF ?_;refine awK ?_;simp only [F11,seval];refine awN ?_;simp only [F11,seval];repeat refine ob ?_
    intro zc zQ hM;refine aN (aM H [1,5,6,9,14,15,16] [4187,4009] (by intro y B h;right;have h9:=hbH y B h;simp only [aj];(repeat rw [if_neg (by omega)]);exact h)) (hM _ ⟨1,?_,?_,?_,?_,?_,?_,?_,?_,?_,?_,?_,?_,?_,?_,?_,?_,(by decide),?cs32⟩);case cs32=>(simp only [F11,seval];rfl)
   have y1:¬x0%12=1:=by omega
   refine awN ?_;simp only [F11,seval,c1];repeat refine ob ?_
   refine awF ?_;by_cases c2:((x0%12:Nat):Int)=2
   ·have y2:x0%12=2:=by omega
    refine awN ?_;simp only [F11,seval,c2];repeat refine ob ?_
    refine awT ?_;refine awK ?_;simp only [F11,seval];refine awT ?_;refine awD (scT 0 12 (scq [24,27,28] .nil)) [0,0,0,0,0,0,0,0,0,0,0,0,0,0,0] ?_;simp only [F11,seval,w25,w34];repeat refine ob ?_
    refine ⟨_,(cp x4 hx4),rfl,?_⟩;try simp only [aZ,F11,seval,bk]
    repeat refine ob ?_
    by_cases hh:((x2%5:Nat):Int)-2< -1
    ·refine awN ?_;simp only [F11,seval,hh];repeat refine ob ?_
     refine awT ?_;refine awN ?_;simp only [F11,seval];repeat refine ob ?_
     by_cases h7:((x3%7:Nat):Int)=6
     ·refine awN ?_;simp only [F11,seval,h7,w37];repeat refine ob ?_
      refine awT ?_;refine awN ?_;simp only [F11,seval,d37,w372];repeat refine ob ?_
      refine awN ?_;simp only [F11,seval];repeat refine ob ?_
      intro zc zQ hM;refine aN (aM H [1,5,6,9,14,15,16] [4187,4009] (by intro y B h;right;have h9:=hbH y B h;simp only [aj];(repeat rw [if_neg (by omega)]);exact h)) (hM _ ⟨1,?_,?_,?_,?_,?_,?_,?_,?_,?_,?_,?_,?_,?_,?_,?_,?_,(by decide),?cs41⟩);case cs41=>(simp only [F11,seval];rfl)
     refine awN ?_;simp only [F11,seval,h7,w37];repeat refine ob ?_
     refine awF ?_;refine awK ?_;simp only [F11,seval];refine awN ?_;simp only [F11,seval];repeat refine ob ?_
     intro zc zQ hM;refine aN (aM H [1,5,6,9,14,15,16] [4187,4009] (by intro y B h;right;have h9:=hbH y B h;simp only [aj];(repeat rw [if_neg (by omega)]);exact h)) (hM _ ⟨1,?_,?_,?_,?_,?_,?_,?_,?_,?_,?_,?_,?_,?_,?_,?_,?_,(by decide),?cs44⟩);case cs44=>(simp only [F11,seval];rfl)
    refine awN ?_;simp only [F11,seval,hh];repeat refine ob ?_
    refine awF ?_;refine awK ?_;simp only [F11,seval];by_cases h7:((x3%7:Nat):Int)=6
    ·refine awN ?_;simp only [F11,seval,h7,w37];repeat refine ob ?_
     refine awT ?_;refine awN ?_;simp only [F11,seval,d37,w372];repeat refine ob ?_
     refine awN ?_;simp only [F11,seval];repeat refine ob ?_
     intro zc zQ hM;refine aN (aM H [1,5,6,9,14,15,16] [4187,4009] (by intro y B h;right;have h9:=hbH y B h;simp only [aj];(repeat rw [if_neg (by omega)]);exact h)) (hM _ ⟨1,?_,?_,?_,?_,?_,?_,?_,?_,?_,?_,?_,?_,?_,?_,?_,?_,(by decide),?cs49⟩);case cs49=>(simp only [F11,seval];rfl)
    refine awN ?_;simp only [F11,seval,h7,w37];repeat refine ob ?_
    refine awF ?_;refine awK ?_;simp only [F11,seval];refine awN ?_;simp only [F11,seval];repeat refine ob ?_
    intro zc zQ hM;refine aN (aM H [1,5,6,9,14,15,16] [4187,4009] (by intro y B h;right;have h9:=hbH y B h;simp only [aj];(repeat rw [if_neg (by omega)]);exact h)) (hM _ ⟨1,?_,?_,?_,?_,?_,?_,?_,?_,?_,?_,?_,?_,?_,?_,?_,?_,(by decide),?cs52⟩);case cs52=>(simp only [F11,seval];rfl)
   have y2:¬x0%12=2:=by omega
   refine awN ?_;simp only [F11,seval,c2];repeat refine ob ?_
   refine awF ?_;by_cases c3:((x0%12:Nat):Int)=3
   ·have y3:x0%12=3:=by omega
    refine awN ?_;simp only [F11,seval,c3];repeat refine ob ?_
    refine awT ?_;refine awD (scT 0 12 (scq [24,27,28] .nil)) [0,0,0,0,0,0,0,0,0,0,0,0,0,0,0] ?_;simp only [F11,seval,w25,w34];repeat refine ob ?_
    refine ⟨_,(cp x4 hx4),rfl,?_⟩;try simp only [aZ,F11,seval,bk]
    repeat refine ob ?_
    by_cases hh:((x2%5:Nat):Int)-2< -1
    ·refine awN ?_;simp only [F11,seval,hh];repeat refine ob ?_
     refine awT ?_;refine awN ?_;simp only [F11,seval];repeat refine ob ?_
     by_cases h7:((x3%7:Nat):Int)=6
     ·refine awN ?_;simp only [F11,seval,h7,w37];repeat refine ob ?_
      refine awT ?_;refine awN ?_;simp only [F11,seval,d37,w372];repeat refine ob ?_
      refine awN ?_;simp only [F11,seval];repeat refine ob ?_
      intro zc zQ hM;refine aN (aM H [1,5,6,9,14,15,16] [4187,4009] (by intro y B h;right;have h9:=hbH y B h;simp only [aj];(repeat rw [if_neg (by omega)]);exact h)) (hM _ ⟨1,?_,?_,?_,?_,?_,?_,?_,?_,?_,?_,?_,?_,?_,?_,?_,?_,(by decide),?cs61⟩);case cs61=>(simp only [F11,seval];rfl)
     refine awN ?_;simp only [F11,seval,h7,w37];repeat refine ob ?_
     refine awF ?_;refine awK ?_;simp only [F11,seval];refine awN ?_;simp only [F11,seval];repeat refine ob ?_
     intro zc zQ hM;refine aN (aM H [1,5,6,9,14,15,16] [4187,4009] (by intro y B h;right;have h9:=hbH y B h;simp only [aj];(repeat rw [if_neg (by omega)]);exact h)) (hM _ ⟨1,?_,?_,?_,?_,?_,?_,?_,?_,?_,?_,?_,?_,?_,?_,?_,?_,(by decide),?cs64⟩);case cs64=>(simp only [F11,seval];rfl)
    refine awN ?_;simp only [F11,seval,hh];repeat refine ob ?_
    refine awF ?_;refine awK ?_;simp only [F11,seval];by_cases h7:((x3%7:Nat):Int)=6
    ·refine awN ?_;simp only [F11,seval,h7,w37];repeat refine ob ?_
     refine awT ?_;refine awN ?_;simp only [F11,seval,d37,w372];repeat refine ob ?_
     refine awN ?_;simp only [F11,seval];repeat refine ob ?_
     intro zc zQ hM;refine aN (aM H [1,5,6,9,14,15,16] [4187,4009] (by intro y B h;right;have h9:=hbH y B h;simp only [aj];(repeat rw [if_neg (by omega)]);exact h)) (hM _ ⟨1,?_,?_,?_,?_,?_,?_,?_,?_,?_,?_,?_,?_,?_,?_,?_,?_,(by decide),?cs69⟩);case cs69=>(simp only [F11,seval];rfl)
    refine awN ?_;simp only [F11,seval,h7,w37];repeat refine ob ?_
    refine awF ?_;refine awK ?_;simp only [F11,seval];refine awN ?_;simp only [F11,seval];repeat refine ob ?_
    intro zc zQ hM;refine aN (aM H [1,5,6,9,14,15,16] [4187,4009] (by intro y B h;right;have h9:=hbH y B h;simp only [aj];(repeat rw [if_neg (by omega)]);exact h)) (hM _ ⟨1,?_,?_,?_,?_,?_,?_,?_,?_,?_,?_,?_,?_,?_,?_,?_,?_,(by decide),?cs72⟩);case cs72=>(simp only [F11,seval];rfl)
   have y3:¬x0%12=3:=by omega
   refine awN ?_;simp only [F11,seval,c3];repeat refine ob ?_
   refine awF ?_;by_cases c4:((x0%12:Nat):Int)=4
   ·have y4:x0%12=4:=by omega
    refine awN ?_;simp only [F11,seval,c4];repeat refine ob ?_
    refine awT ?_;refine awD (scq [1,3] (scT 3 14 (.two 2 17 (scq [34,37,38] .nil) (scq [4,37,38] .nil)))) [0,0,0,0,0,0,0,0,0,0,0,0,0,0,0,0,0,0,0,0] ?_;simp only [F11,seval,w23,w33];repeat refine ob ?_
    refine ⟨?_,?_⟩
    ·repeat refine ob ?_
     refine ⟨_,(cp x4 hx4),rfl,?_⟩;try simp only [aZ,F11,seval,bk]
     repeat refine ob ?_
     intro zc zQ hM;refine aN (aM H [1,5,6,9,14,15,16] [4187,4009] (by intro y B h;right;have h9:=hbH y B h;simp only [aj];(repeat rw [if_neg (by omega)]);exact h)) (hM _ ⟨0,?_,?_,?_,?_,?_,?_,?_,?_,?_,?_,?_,?_,?_,?_,?_,?_,(by decide),?cs76⟩);case cs76=>(simp only [F11,seval];rfl)
    repeat refine ob ?_
    refine ⟨_,(cp x4 hx4),rfl,?_⟩;try simp only [aZ,F11,seval,bk]
    repeat refine ob ?_
    intro zc zQ hM;refine aN (aM H [1,5,6,9,14,15,16] [4187,4009] (by intro y B h;right;have h9:=hbH y B h;simp only [aj];(repeat rw [if_neg (by omega)]);exact h)) (hM _ ⟨0,?_,?_,?_,?_,?_,?_,?_,?_,?_,?_,?_,?_,?_,?_,?_,?_,(by decide),?cs77⟩);case cs77=>(simp only [F11,seval];rfl)
   have y4:¬x0%12=4:=by omega
   refine awN ?_;simp only [F11,seval,c4];repeat refine ob ?_
   refine awF ?_;by_cases c5:((x0%12:Nat):Int)=5
   ·have y5:x0%12=5:=by omega
    refine awN ?_;simp only [F11,seval,c5];repeat refine ob ?_
    refine awT ?_;refine awK ?_;simp only [F11,seval];refine awT ?_;repeat' first|apply awS|apply awB
    refine jL [128] (by kernel_rfl) (.take 0 (.take 1 (.take 7 (.take 8 (.take 9 (.take 10 (.take 11 (.take 12 (.take 13 (.take 14 (.take 15 (.take 16 (.take 17 (.take 18 (.take 19 (.take 20 (.take 21 (.take 22 (.alt 2 (.take 3 (.take 4 (.take 5 (.alt 6 (.alt 23 (.take 24 (.alt 25 .nil .none)) .none) (.alt 23 (.alt 6 (.take 24 (.alt 25 .nil .none)) .none) .none))))) (.alt 23 (.take 2 (.take 3 (.take 4 (.take 5 (.alt 6 (.take 24 (.alt 25 .nil .none)) .none))))) .none)))))))))))))))))))) (by kernel_rfl) (gs:=[none,none,none,none,none,none,none,none,none,none,none,none,none,none,none,none,none,none,none,none,none,none,none,none,none,none]) (by kernel_rfl) (by simp only [(id SS),(id SW),seval,reduceIte,ne_eq];rfl) (by decide) ?_;simp only [F11,seval,w24,d0c,w0c8,w0c7,w6,(id SW),and_self];repeat refine ob ?_
    refine ⟨?_,?_⟩
    ·repeat refine ob ?_
     refine ⟨?_,?_⟩
     ·repeat refine ob ?_
      refine ⟨_,dT (6*(x0/12%8/7)) (by omega) ⟨x1,x2,x3,x4⟩ ⟨hx1,hx2,hx3,hx4⟩ _ _ (fun y B hB=>?_),?_⟩
      ·simp only [aj] at hB;repeat (split at hB;· omega)
       have:=hbH y B hB;omega
      rintro res H' nx' ⟨lo,so,ho1,ho3,rfl,rfl⟩;simp only [F11,seval,(id SD),(id SW),and_true,and_self,false_and];repeat refine ob ?_
      intro zc zQ hM;refine aN (aM H [1,5,6,9,14,15,16] [4187,4009] (by intro y B h;right;have h9:=hbH y B h;simp only [aj];(repeat rw [if_neg (by omega)]);exact h)) (hM _ ⟨0,?_,?_,?_,?_,?_,?_,?_,?_,?_,?_,?_,?_,?_,?_,?_,?_,(by decide),?cs81⟩);case cs81=>(simp only [F11,seval];rfl)
     repeat refine ob ?_
     refine ⟨_,dT (6*(x0/12%8/7)) (by omega) ⟨x1,x2,x3,x4⟩ ⟨hx1,hx2,hx3,hx4⟩ _ _ (fun y B hB=>?_),?_⟩
     ·simp only [aj] at hB;repeat (split at hB;· omega)
      have:=hbH y B hB;omega
     rintro res H' nx' ⟨lo,so,ho1,ho3,rfl,rfl⟩;simp only [F11,seval,(id SD),(id SW),and_true,and_self,false_and];repeat refine ob ?_
     intro zc zQ hM;refine aN (aM H [1,5,6,9,14,15,16] [4187,4009] (by intro y B h;right;have h9:=hbH y B h;simp only [aj];(repeat rw [if_neg (by omega)]);exact h)) (hM _ ⟨0,?_,?_,?_,?_,?_,?_,?_,?_,?_,?_,?_,?_,?_,?_,?_,?_,(by decide),?cs82⟩);case cs82=>(simp only [F11,seval];rfl)
    repeat refine ob ?_
    refine ⟨_,dT (6*(x0/12%8/7)) (by omega) ⟨x1,x2,x3,x4⟩ ⟨hx1,hx2,hx3,hx4⟩ _ _ (fun y B hB=>?_),?_⟩
    ·simp only [aj] at hB;repeat (split at hB;· omega)
     have:=hbH y B hB;omega
    rintro res H' nx' ⟨lo,so,ho1,ho3,rfl,rfl⟩;simp only [F11,seval,(id SD),(id SW),and_true,and_self,false_and];repeat refine ob ?_
    intro zc zQ hM;refine aN (aM H [1,5,6,9,14,15,16] [4187,4009] (by intro y B h;right;have h9:=hbH y B h;simp only [aj];(repeat rw [if_neg (by omega)]);exact h)) (hM _ ⟨0,?_,?_,?_,?_,?_,?_,?_,?_,?_,?_,?_,?_,?_,?_,?_,?_,(by decide),?cs83⟩);case cs83=>(simp only [F11,seval];rfl)
   have y5:¬x0%12=5:=by omega
   refine awN ?_;simp only [F11,seval,c5];repeat refine ob ?_
   refine awF ?_;by_cases c6:((x0%12:Nat):Int)=6
   ·have y6:x0%12=6:=by omega
    refine awN ?_;simp only [F11,seval,c6];repeat refine ob ?_
    refine awT ?_;repeat' first|apply awS|apply awB
    refine jL [128] (by kernel_rfl) (.take 0 (.take 1 (.take 7 (.take 8 (.take 9 (.take 10 (.take 11 (.take 12 (.take 13 (.take 14 (.take 15 (.take 16 (.take 17 (.take 18 (.take 19 (.take 20 (.take 21 (.take 22 (.alt 2 (.take 3 (.take 4 (.take 5 (.alt 6 (.alt 23 (.take 24 (.alt 25 .nil .none)) .none) (.alt 23 (.alt 6 (.take 24 (.alt 25 .nil .none)) .none) .none))))) (.alt 23 (.take 2 (.take 3 (.take 4 (.take 5 (.alt 6 (.take 24 (.alt 25 .nil .none)) .none))))) .none)))))))))))))))))))) (by kernel_rfl) (gs:=[none,none,none,none,none,none,none,none,none,none,none,none,none,none,none,none,none,none,none,none,none,none,none,none,none,none]) (by kernel_rfl) (by simp only [(id SS),(id SW),seval,reduceIte,ne_eq];rfl) (by decide) ?_;simp only [F11,seval,w24,d0c,w0c8,w0c7,w6,(id SW),and_self];repeat refine ob ?_
    refine ⟨?_,?_⟩
    ·repeat refine ob ?_
     refine ⟨?_,?_⟩
     ·repeat refine ob ?_
      refine ⟨_,dT (6*(x0/12%8/7)) (by omega) ⟨x1,x2,x3,x4⟩ ⟨hx1,hx2,hx3,hx4⟩ _ _ (fun y B hB=>?_),?_⟩
      ·simp only [aj] at hB;repeat (split at hB;· omega)
       have:=hbH y B hB;omega
      rintro res H' nx' ⟨lo,so,ho1,ho3,rfl,rfl⟩;simp only [F11,seval,(id SD),(id SW),and_true,and_self,false_and];repeat refine ob ?_
      intro zc zQ hM;refine aN (aM H [1,5,6,9,14,15,16] [4187,4009] (by intro y B h;right;have h9:=hbH y B h;simp only [aj];(repeat rw [if_neg (by omega)]);exact h)) (hM _ ⟨0,?_,?_,?_,?_,?_,?_,?_,?_,?_,?_,?_,?_,?_,?_,?_,?_,(by decide),?cs87⟩);case cs87=>(simp only [F11,seval];rfl)
     repeat refine ob ?_
     refine ⟨_,dT (6*(x0/12%8/7)) (by omega) ⟨x1,x2,x3,x4⟩ ⟨hx1,hx2,hx3,hx4⟩ _ _ (fun y B hB=>?_),?_⟩
     ·simp only [aj] at hB;repeat (split at hB;· omega)
      have:=hbH y B hB;omega
     rintro res H' nx' ⟨lo,so,ho1,ho3,rfl,rfl⟩;simp only [F11,seval,(id SD),(id SW),and_true,and_self,false_and];repeat refine ob ?_
     intro zc zQ hM;refine aN (aM H [1,5,6,9,14,15,16] [4187,4009] (by intro y B h;right;have h9:=hbH y B h;simp only [aj];(repeat rw [if_neg (by omega)]);exact h)) (hM _ ⟨0,?_,?_,?_,?_,?_,?_,?_,?_,?_,?_,?_,?_,?_,?_,?_,?_,(by decide),?cs88⟩);case cs88=>(simp only [F11,seval];rfl)
    repeat refine ob ?_
    refine ⟨_,dT (6*(x0/12%8/7)) (by omega) ⟨x1,x2,x3,x4⟩ ⟨hx1,hx2,hx3,hx4⟩ _ _ (fun y B hB=>?_),?_⟩
    ·simp only [aj] at hB;repeat (split at hB;· omega)
     have:=hbH y B hB;omega
    rintro res H' nx' ⟨lo,so,ho1,ho3,rfl,rfl⟩;simp only [F11,seval,(id SD),(id SW),and_true,and_self,false_and];repeat refine ob ?_
    intro zc zQ hM;refine aN (aM H [1,5,6,9,14,15,16] [4187,4009] (by intro y B h;right;have h9:=hbH y B h;simp only [aj];(repeat rw [if_neg (by omega)]);exact h)) (hM _ ⟨0,?_,?_,?_,?_,?_,?_,?_,?_,?_,?_,?_,?_,?_,?_,?_,?_,(by decide),?cs89⟩);case cs89=>(simp only [F11,seval];rfl)
   have y6:¬x0%12=6:=by omega
   refine awN ?_;simp only [F11,seval,c6];repeat refine ob ?_
   refine awF ?_;by_cases c7:((x0%12:Nat):Int)=7
   ·have y7:x0%12=7:=by omega
    refine awN ?_;simp only [F11,seval,c7];repeat refine ob ?_
    refine awT ?_;refine awN ?_;simp only [F11,seval,w22,w32];repeat refine ob ?_
    intro zc zQ hM;refine aN (aM H [1,5,6,9,14,15,16] [4187,4009] (by intro y B h;right;have h9:=hbH y B h;simp only [aj];(repeat rw [if_neg (by omega)]);exact h)) (hM _ ⟨0,?_,?_,?_,?_,?_,?_,?_,?_,?_,?_,?_,?_,?_,?_,?_,?_,(by decide),?cs93⟩);case cs93=>(simp only [F11,seval];rfl)
   have y7:¬x0%12=7:=by omega
   refine awN ?_;simp only [F11,seval,c7];repeat refine ob ?_
   refine awF ?_;by_cases c8:((x0%12:Nat):Int)=8
   ·have y8:x0%12=8:=by omega
    refine awN ?_;simp only [F11,seval,c8];repeat refine ob ?_
    refine awT ?_;refine awN ?_;simp only [F11,seval];repeat refine ob ?_
    refine ⟨_,(cp x4 hx4),rfl,?_⟩;try simp only [aZ,F11,seval,bk]
    repeat refine ob ?_
    intro zc zQ hM;refine aN (aM H [1,5,6,9,14,15,16] [4187,4009] (by intro y B h;right;have h9:=hbH y B h;simp only [aj];(repeat rw [if_neg (by omega)]);exact h)) (hM _ ⟨0,?_,?_,?_,?_,?_,?_,?_,?_,?_,?_,?_,?_,?_,?_,?_,?_,(by decide),?cs97⟩);case cs97=>(simp only [F11,seval];rfl)
   have y8:¬x0%12=8:=by omega
   refine awN ?_;simp only [F11,seval,c8];repeat refine ob ?_
   refine awF ?_;by_cases c9:((x0%12:Nat):Int)=9
   ·have y9:x0%12=9:=by omega
    refine awN ?_;simp only [F11,seval,c9];repeat refine ob ?_
    refine awT ?_;refine awD (scT 0 8 (scq [16,19,20] .nil)) [0,0,0,0,0,0,0,0,0,0,0] ?_;simp only [F11,seval,w32];repeat refine ob ?_
    refine ⟨_,(cp x4 hx4),rfl,?_⟩;try simp only [aZ,F11,seval,bk]
    repeat refine ob ?_
    by_cases h5:((x3%5:Nat):Int)=0
    ·refine awN ?_;simp only [F11,seval,h5,w35];repeat refine ob ?_
     refine awT ?_;refine awN ?_;simp only [F11,seval];repeat refine ob ?_
     by_cases h9:((x2%9:Nat):Int)=8
     ·refine awN ?_;simp only [F11,seval,h9,w29];repeat refine ob ?_
      refine awT ?_;refine awN ?_;simp only [F11,seval];repeat refine ob ?_
      intro zc zQ hM;refine aN (aM H [1,5,6,9,14,15,16] [4187,4009] (by intro y B h;right;have h9:=hbH y B h;simp only [aj];(repeat rw [if_neg (by omega)]);exact h)) (hM _ ⟨0,?_,?_,?_,?_,?_,?_,?_,?_,?_,?_,?_,?_,?_,?_,?_,?_,(by decide),?cs105⟩);case cs105=>(simp only [F11,seval];rfl)
     refine awN ?_;simp only [F11,seval,h9,w29];repeat refine ob ?_
     refine awF ?_;refine awK ?_;simp only [F11,seval];intro zc zQ hM;refine aN (aM H [1,5,6,9,14,15,16] [4187,4009] (by intro y B h;right;have h9:=hbH y B h;simp only [aj];(repeat rw [if_neg (by omega)]);exact h)) (hM _ ⟨0,?_,?_,?_,?_,?_,?_,?_,?_,?_,?_,?_,?_,?_,?_,?_,?_,(by decide),?cs107⟩);case cs107=>(simp only [F11,seval];rfl)
    refine awN ?_;simp only [F11,seval,h5,w35];repeat refine ob ?_
    refine awF ?_;refine awK ?_;simp only [F11,seval];by_cases h9:((x2%9:Nat):Int)=8
    ·refine awN ?_;simp only [F11,seval,h9,w29];repeat refine ob ?_
     refine awT ?_;refine awN ?_;simp only [F11,seval];repeat refine ob ?_
     intro zc zQ hM;refine aN (aM H [1,5,6,9,14,15,16] [4187,4009] (by intro y B h;right;have h9:=hbH y B h;simp only [aj];(repeat rw [if_neg (by omega)]);exact h)) (hM _ ⟨0,?_,?_,?_,?_,?_,?_,?_,?_,?_,?_,?_,?_,?_,?_,?_,?_,(by decide),?cs111⟩);case cs111=>(simp only [F11,seval];rfl)
    refine awN ?_;simp only [F11,seval,h9,w29];repeat refine ob ?_
    refine awF ?_;refine awK ?_;simp only [F11,seval];intro zc zQ hM;refine aN (aM H [1,5,6,9,14,15,16] [4187,4009] (by intro y B h;right;have h9:=hbH y B h;simp only [aj];(repeat rw [if_neg (by omega)]);exact h)) (hM _ ⟨0,?_,?_,?_,?_,?_,?_,?_,?_,?_,?_,?_,?_,?_,?_,?_,?_,(by decide),?cs113⟩);case cs113=>(simp only [F11,seval];rfl)
   have y9:¬x0%12=9:=by omega
   refine awN ?_;simp only [F11,seval,c9];repeat refine ob ?_
   refine awF ?_;by_cases c10:((x0%12:Nat):Int)=10
   ·have y10:x0%12=10:=by omega
    refine awN ?_;simp only [F11,seval,c10];repeat refine ob ?_
    refine awT ?_;refine awN ?_;simp only [F11,seval];repeat refine ob ?_
    intro zc zQ hM;refine aN (aM H [1,5,6,9,14,15,16] [4187,4009] (by intro y B h;right;have h9:=hbH y B h;simp only [aj];(repeat rw [if_neg (by omega)]);exact h)) (hM _ ⟨0,?_,?_,?_,?_,?_,?_,?_,?_,?_,?_,?_,?_,?_,?_,?_,?_,(by decide),?cs117⟩);case cs117=>(simp only [F11,seval];rfl)
   have y10:¬x0%12=10:=by omega
   refine awN ?_;simp only [F11,seval,c10];repeat refine ob ?_
   refine awF ?_;have c11:((x0%12:Nat):Int)=11:=by omega
   refine awN ?_;simp only [F11,seval,c11];repeat refine ob ?_
   refine awT ?_;refine awN ?_;simp only [F11,seval];repeat refine ob ?_
   by_cases h6:((x4%6:Nat):Int)=0
   ·refine awN ?_;simp only [F11,seval,h6,w46];repeat refine ob ?_
    refine awT ?_;refine awN ?_;simp only [F11,seval];repeat refine ob ?_
    intro zc zQ hM;refine aN (aM H [1,5,6,9,14,15,16] [4187,4009] (by intro y B h;right;have h9:=hbH y B h;simp only [aj];(repeat rw [if_neg (by omega)]);exact h)) (hM _ ⟨0,?_,?_,?_,?_,?_,?_,?_,?_,?_,?_,?_,?_,?_,?_,?_,?_,(by decide),?cs123⟩);case cs123=>(simp only [F11,seval];rfl)
   refine awN ?_;simp only [F11,seval,h6,w46];repeat refine ob ?_
   refine awF ?_;refine awK ?_;simp only [F11,seval];intro zc zQ hM;refine aN (aM H [1,5,6,9,14,15,16] [4187,4009] (by intro y B h;right;have h9:=hbH y B h;simp only [aj];(repeat rw [if_neg (by omega)]);exact h)) (hM _ ⟨0,?_,?_,?_,?_,?_,?_,?_,?_,?_,?_,?_,?_,?_,?_,?_,?_,(by decide),?cs125⟩);case cs125=>(simp only [F11,seval];rfl)
  rintro st ⟨cl2,t9,a0,a1,a2,a3,a4,a5,a6,a7,a8,a9,a10,a11,a12,a13,nx9,hcl2,rfl⟩;refine awN ?_;simp only [F11,seval];repeat refine ob ?_
  refine awN ?_;simp only [F11,seval];repeat refine ob ?_
  repeat refine ob ?_
  refine ⟨_,aM H [1,5,6,14,15,16] [4187] (by intro y B h;right;have h9:=hbH y B h;simp only [aj];(repeat rw [if_neg (by omega)]);exact h),0,by omega,1,cl2,?sa129,cs++[a0,a1,a2,a3,a4,a5,a6,a7,a8,a9,a10,a11,a12,a13],?na129,by omega,rfl,by omega,by rw [List.length_append,hcs];simp,?st129⟩;case st129=>(simp only [F11,seval];first|rfl|(simp;done))
 refine awN ?_;simp only [F11,seval,hlt0];repeat refine ob ?_
 refine awF ?_;refine awQ ?_;simp only [F11,seval];refine awN ?_;simp only [F11,seval];repeat refine ob ?_
 refine fW H [4] [4187] (by intro y B h;right;have h9:=hbH y B h;simp only [aj];(repeat rw [if_neg (by omega)]);exact h) ?_;simp only [F11,seval];refine awX ?_;simp only [F11,seval];have hj1:j=1:=by omega
 subst hj1;exact ⟨s,cs,hcs,rfl,rfl⟩
end Go.Proofs.YtclkgcigacbmiaaGreatDoor
