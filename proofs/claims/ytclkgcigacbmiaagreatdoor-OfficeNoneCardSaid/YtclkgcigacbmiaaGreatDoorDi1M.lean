/- The builders of disputes: all claims of a group, options; walked by the abstract machine. -/
import Derived.Test.YtclkgcigacbmiaaGreatDoorEv7M
import Derived.Test.YtclkgcigacbmiaaGreatDoorGu1M
import Derived.Test.YtclkgcigacbmiaaGreatDoorWf6M
import Derived.Test.YtclkgcigacbmiaaGreatDoorPl3M
import Derived.Test.YtclkgcigacbmiaaGreatDoorAbBM
import Derived.Test.YtclkgcigacbmiaaGreatDoorOw3M
set_option linter.unusedVariables false
set_option maxHeartbeats 4000000
set_option maxRecDepth 100000
set_option linter.unusedSimpArgs false
set_option linter.defProp false
namespace Go.Proofs.YtclkgcigacbmiaaGreatDoor
open Go Go.RowKit Go.Proofs.Tryz
theorem yS (e:Int):∃z:Nat,IntKind.u16.wrap e=(z:Int)/\z<65536:=by
 refine ⟨(IntKind.u16.wrap e).toNat,?_,?_⟩<;>simp [IntKind.wrap,IntKind.bits,IntKind.signed]<;>omega
def F8:=And.intro zS (And.intro zl (And.intro zm (And.intro zn (And.intro zo (And.intro zp (And.intro tf0 (And.intro yq (And.intro yr (And.intro zq (And.intro zr (And.intro tf1 (And.intro yu (And.intro yv (And.intro zt (And.intro zu (tf2))))))))))))))))
theorem F9:type_of%F8:=F8
theorem dT (le:Nat) (hle:le<=6) (x:N4) (hx:Ae x) (H:Hp) (ny:Nat) (hbH:∀y B,H y=some B->y<2000∨3000<=y):ACallI prog 21 [.agg (cN4 x),.one (.lit (.int .i64 (le:Int)))] H ny (fun res H' _=>∃l s,1<=l.length/\l.length<=3/\res= .val (.one (.own 2066 s l.length 4))/\H'=lD H [(2066,⟨s,133,4,l.length,r6 gC l⟩)]):=by
 obtain ⟨hxa,hxb,hxc,hxd⟩:=hx;have w1:(x.b:Int).tmod 3=((x.b%3:Nat):Int):=by norm_cast
 have w4:(x.d:Int).tmod 4=((x.d%4:Nat):Int):=by norm_cast
 have w2:(IntKind.u16.wrap ((x.b:Int).tdiv 9)).tmod 3=((x.b/9%3:Nat):Int):=by
  have h:=mT (x.b/9) (by omega);rw [show (x.b:Int).tdiv 9=((x.b/9:Nat):Int) by norm_cast,h];norm_cast
 have w3:(IntKind.u16.wrap ((x.b:Int).tdiv 3)).tmod 3=((x.b/3%3:Nat):Int):=by
  have h:=mT (x.b/3) (by omega);rw [show (x.b:Int).tdiv 3=((x.b/3:Nat):Int) by norm_cast,h];norm_cast
 refine fb 2000 func21 rfl (by decide) (N:=68) rfl (by simp) (Rl:=[.tmp 4]) rfl fun en k0=>?_
 refine awN ?_;simp only [F9,seval,cN4];repeat refine ob ?_
 refine awN ?_;simp only [F9,seval];repeat refine ob ?_
 refine awN ?_;simp only [F9,seval];repeat refine ob ?_
 refine tK 5 2066 133 4 (by decide) (by rfl) ?_;refine fW H [1,2,5,6] [2002,2066] (by intro y B h;right;have h9:=hbH y B h;simp only [aj];(repeat rw [if_neg (by omega)]);exact h) ?_;try simp only [aZ,F9,seval]
 repeat' first|apply awS|apply awB
 refine hJ (fun n st=>∃k l s nx,k<=1+x.b%3/\n=1+x.b%3-k/\l.length=k/\st=⟨mkT [(1,one (.int .i64 (le:Int))),(2,.val (.one (.ptr 2002 ny 0))),(5,.val (.one (.own 2066 s l.length 4))),(6,one (.int .i64 k))],lD H [(2002,⟨ny,61,4,1,cN4 x⟩),(2066,⟨s,133,4,l.length,r6 gC l⟩)],nx,2000⟩) (1+x.b%3) ⟨0,[],_,_,by omega,by omega,rfl,rfl⟩ ?_;rintro n0 st ⟨k,l,s,nx0,hk,rfl,hll,rfl⟩;by_cases hlt0:(k:Int)<1+((x.b%3:Nat):Int)
 ·refine awN ?_;simp only [F9,seval,cN4,hlt0,w1];repeat refine ob ?_
  refine awT ?_;refine awK ?_;simp only [F9,seval];obtain ⟨z,hz9e,hz9⟩:=yS ((x.c:Int)+IntKind.u16.wrap (IntKind.u16.wrap (37*(k:Int))*IntKind.u16.wrap ((BitVec.ofInt IntKind.u16.bits (x.d:Int)|||BitVec.ofInt IntKind.u16.bits 1).toNat:Int)));refine awD (scT 0 10 (scT 11 7 (.two 10 19 (scq [37,38,40] .nil) (scq [20,37,40] .nil)))) [0,0,0,0,0,0,0,0,0,0,0,0,0,0,0,0,0,0,0,0,0] ?_;simp only [F9,seval,w3,hz9e];repeat refine ob ?_
  refine ⟨?_,?_⟩
  ·repeat refine ob ?_
   refine ⟨_,(cp z hz9),rfl,?_⟩;try simp only [aZ,F9,seval,bk]
   repeat refine ob ?_
   by_cases ha:((x.b/9%3:Nat):Int)=0
   ·refine awN ?_;simp only [F9,seval,ha,w2];repeat refine ob ?_
    refine awT ?_;have w5:IntKind.u64.wrap (2*(k:Int))=((2*k:Nat):Int):=by have:=yD (2*k) (by omega);rw [←this];norm_cast
    have w6:=vF x.d (2*k) hxd (by omega);obtain ⟨m,hm⟩:∃m,m=x.d/2^(2*k)%4:=⟨_,rfl⟩;rw [←hm] at w6;have w7:(m:Int).tmod 3=((m%3:Nat):Int):=by norm_cast
    refine awN ?_;simp only [F9,seval,w5,w6,w7];repeat refine ob ?_
    by_cases hk0:(0:Int)<(k:Int)
    ·by_cases hz:((x.d%4:Nat):Int)=0
     ·refine awR [] [0,0,0,113,113,113,113,0] ?_;simp only [F9,seval,hk0,hz,w4];repeat refine ob ?_
      refine awT ?_;refine awN ?_;simp only [F9,seval];repeat refine ob ?_
      refine awN ?_;simp only [F9,seval];repeat refine ob ?_
      refine awN ?_;simp only [F9,seval];repeat refine ob ?_
      repeat refine ob ?_
      refine ⟨_,aM H [1,2,5,6] [2002,2066] (by intro y B h;right;have h9:=hbH y B h;simp only [aj];(repeat rw [if_neg (by omega)]);exact h),1+x.b%3-(k+1),by omega,k+1,l++[⟨⟨false,aD,aD⟩,((le:Int)+((m%3:Nat):Int))⟩],?sa12,?na12,by omega,rfl,by simp;omega,?st12⟩;case st12=>(simp only [F9,seval,bx,gC,List.length_append];first|rfl|(simp;done))
     refine awR [] [0,0,0,113,113,113,113,0] ?_;simp only [F9,seval,hk0,hz,w4];repeat refine ob ?_
     refine awF ?_;refine awK ?_;simp only [F9,seval];refine awN ?_;simp only [F9,seval];repeat refine ob ?_
     refine awN ?_;simp only [F9,seval];repeat refine ob ?_
     repeat refine ob ?_
     refine ⟨_,aM H [1,2,5,6] [2002,2066] (by intro y B h;right;have h9:=hbH y B h;simp only [aj];(repeat rw [if_neg (by omega)]);exact h),1+x.b%3-(k+1),by omega,k+1,l++[⟨(enc (dH z)),((le:Int)+((m%3:Nat):Int))⟩],?sa16,?na16,by omega,rfl,by simp;omega,?st16⟩;case st16=>(simp only [F9,seval,bx,gC,List.length_append];first|rfl|(simp;done))
    refine awR [] [0,0,0,113,113,113,113,0] ?_;simp only [F9,seval,hk0];repeat refine ob ?_
    refine awF ?_;refine awK ?_;simp only [F9,seval];refine awN ?_;simp only [F9,seval];repeat refine ob ?_
    refine awN ?_;simp only [F9,seval];repeat refine ob ?_
    repeat refine ob ?_
    refine ⟨_,aM H [1,2,5,6] [2002,2066] (by intro y B h;right;have h9:=hbH y B h;simp only [aj];(repeat rw [if_neg (by omega)]);exact h),1+x.b%3-(k+1),by omega,k+1,l++[⟨(enc (dH z)),((le:Int)+((m%3:Nat):Int))⟩],?sa20,?na20,by omega,rfl,by simp;omega,?st20⟩;case st20=>(simp only [F9,seval,bx,gC,List.length_append];first|rfl|(simp;done))
   refine awN ?_;simp only [F9,seval,ha,w2];repeat refine ob ?_
   refine awF ?_;refine awK ?_;simp only [F9,seval];by_cases hk0:(0:Int)<(k:Int)
   ·by_cases hz:((x.d%4:Nat):Int)=0
    ·refine awR [] [0,0,0,113,113,113,113,0] ?_;simp only [F9,seval,hk0,hz,w4];repeat refine ob ?_
     refine awT ?_;refine awN ?_;simp only [F9,seval];repeat refine ob ?_
     refine awN ?_;simp only [F9,seval];repeat refine ob ?_
     refine awN ?_;simp only [F9,seval];repeat refine ob ?_
     repeat refine ob ?_
     refine ⟨_,aM H [1,2,5,6] [2002,2066] (by intro y B h;right;have h9:=hbH y B h;simp only [aj];(repeat rw [if_neg (by omega)]);exact h),1+x.b%3-(k+1),by omega,k+1,l++[⟨⟨false,aD,aD⟩,((le:Int)+((x.b/3%3:Nat):Int))⟩],?sa26,?na26,by omega,rfl,by simp;omega,?st26⟩;case st26=>(simp only [F9,seval,bx,gC,List.length_append];first|rfl|(simp;done))
    refine awR [] [0,0,0,113,113,113,113,0] ?_;simp only [F9,seval,hk0,hz,w4];repeat refine ob ?_
    refine awF ?_;refine awK ?_;simp only [F9,seval];refine awN ?_;simp only [F9,seval];repeat refine ob ?_
    refine awN ?_;simp only [F9,seval];repeat refine ob ?_
    repeat refine ob ?_
    refine ⟨_,aM H [1,2,5,6] [2002,2066] (by intro y B h;right;have h9:=hbH y B h;simp only [aj];(repeat rw [if_neg (by omega)]);exact h),1+x.b%3-(k+1),by omega,k+1,l++[⟨(enc (dH z)),((le:Int)+((x.b/3%3:Nat):Int))⟩],?sa30,?na30,by omega,rfl,by simp;omega,?st30⟩;case st30=>(simp only [F9,seval,bx,gC,List.length_append];first|rfl|(simp;done))
   refine awR [] [0,0,0,113,113,113,113,0] ?_;simp only [F9,seval,hk0];repeat refine ob ?_
   refine awF ?_;refine awK ?_;simp only [F9,seval];refine awN ?_;simp only [F9,seval];repeat refine ob ?_
   refine awN ?_;simp only [F9,seval];repeat refine ob ?_
   repeat refine ob ?_
   refine ⟨_,aM H [1,2,5,6] [2002,2066] (by intro y B h;right;have h9:=hbH y B h;simp only [aj];(repeat rw [if_neg (by omega)]);exact h),1+x.b%3-(k+1),by omega,k+1,l++[⟨(enc (dH z)),((le:Int)+((x.b/3%3:Nat):Int))⟩],?sa34,?na34,by omega,rfl,by simp;omega,?st34⟩;case st34=>(simp only [F9,seval,bx,gC,List.length_append];first|rfl|(simp;done))
  repeat refine ob ?_
  refine ⟨_,(cp z hz9),rfl,?_⟩;try simp only [aZ,F9,seval,bk]
  repeat refine ob ?_
  by_cases ha:((x.b/9%3:Nat):Int)=0
  ·refine awN ?_;simp only [F9,seval,ha,w2];repeat refine ob ?_
   refine awT ?_;have w5:IntKind.u64.wrap (2*(k:Int))=((2*k:Nat):Int):=by have:=yD (2*k) (by omega);rw [←this];norm_cast
   have w6:=vF x.d (2*k) hxd (by omega);obtain ⟨m,hm⟩:∃m,m=x.d/2^(2*k)%4:=⟨_,rfl⟩;rw [←hm] at w6;have w7:(m:Int).tmod 3=((m%3:Nat):Int):=by norm_cast
   refine awN ?_;simp only [F9,seval,w5,w6,w7];repeat refine ob ?_
   by_cases hk0:(0:Int)<(k:Int)
   ·by_cases hz:((x.d%4:Nat):Int)=0
    ·refine awR [] [0,0,0,113,113,113,113,0] ?_;simp only [F9,seval,hk0,hz,w4];repeat refine ob ?_
     refine awT ?_;refine awN ?_;simp only [F9,seval];repeat refine ob ?_
     refine awN ?_;simp only [F9,seval];repeat refine ob ?_
     refine awN ?_;simp only [F9,seval];repeat refine ob ?_
     repeat refine ob ?_
     refine ⟨_,aM H [1,2,5,6] [2002,2066] (by intro y B h;right;have h9:=hbH y B h;simp only [aj];(repeat rw [if_neg (by omega)]);exact h),1+x.b%3-(k+1),by omega,k+1,l++[⟨⟨false,aD,aD⟩,((le:Int)+((m%3:Nat):Int))⟩],?sa41,?na41,by omega,rfl,by simp;omega,?st41⟩;case st41=>(simp only [F9,seval,bx,gC,List.length_append];first|rfl|(simp;done))
    refine awR [] [0,0,0,113,113,113,113,0] ?_;simp only [F9,seval,hk0,hz,w4];repeat refine ob ?_
    refine awF ?_;refine awK ?_;simp only [F9,seval];refine awN ?_;simp only [F9,seval];repeat refine ob ?_
    refine awN ?_;simp only [F9,seval];repeat refine ob ?_
    repeat refine ob ?_
    refine ⟨_,aM H [1,2,5,6] [2002,2066] (by intro y B h;right;have h9:=hbH y B h;simp only [aj];(repeat rw [if_neg (by omega)]);exact h),1+x.b%3-(k+1),by omega,k+1,l++[⟨(enc (dH z)),((le:Int)+((m%3:Nat):Int))⟩],?sa45,?na45,by omega,rfl,by simp;omega,?st45⟩;case st45=>(simp only [F9,seval,bx,gC,List.length_append];first|rfl|(simp;done))
   refine awR [] [0,0,0,113,113,113,113,0] ?_;simp only [F9,seval,hk0];repeat refine ob ?_
   refine awF ?_;refine awK ?_;simp only [F9,seval];refine awN ?_;simp only [F9,seval];repeat refine ob ?_
   refine awN ?_;simp only [F9,seval];repeat refine ob ?_
   repeat refine ob ?_
   refine ⟨_,aM H [1,2,5,6] [2002,2066] (by intro y B h;right;have h9:=hbH y B h;simp only [aj];(repeat rw [if_neg (by omega)]);exact h),1+x.b%3-(k+1),by omega,k+1,l++[⟨(enc (dH z)),((le:Int)+((m%3:Nat):Int))⟩],?sa49,?na49,by omega,rfl,by simp;omega,?st49⟩;case st49=>(simp only [F9,seval,bx,gC,List.length_append];first|rfl|(simp;done))
  refine awN ?_;simp only [F9,seval,ha,w2];repeat refine ob ?_
  refine awF ?_;refine awK ?_;simp only [F9,seval];by_cases hk0:(0:Int)<(k:Int)
  ·by_cases hz:((x.d%4:Nat):Int)=0
   ·refine awR [] [0,0,0,113,113,113,113,0] ?_;simp only [F9,seval,hk0,hz,w4];repeat refine ob ?_
    refine awT ?_;refine awN ?_;simp only [F9,seval];repeat refine ob ?_
    refine awN ?_;simp only [F9,seval];repeat refine ob ?_
    refine awN ?_;simp only [F9,seval];repeat refine ob ?_
    repeat refine ob ?_
    refine ⟨_,aM H [1,2,5,6] [2002,2066] (by intro y B h;right;have h9:=hbH y B h;simp only [aj];(repeat rw [if_neg (by omega)]);exact h),1+x.b%3-(k+1),by omega,k+1,l++[⟨⟨false,aD,aD⟩,((le:Int)+((x.b/3%3:Nat):Int))⟩],?sa55,?na55,by omega,rfl,by simp;omega,?st55⟩;case st55=>(simp only [F9,seval,bx,gC,List.length_append];first|rfl|(simp;done))
   refine awR [] [0,0,0,113,113,113,113,0] ?_;simp only [F9,seval,hk0,hz,w4];repeat refine ob ?_
   refine awF ?_;refine awK ?_;simp only [F9,seval];refine awN ?_;simp only [F9,seval];repeat refine ob ?_
   refine awN ?_;simp only [F9,seval];repeat refine ob ?_
   repeat refine ob ?_
   refine ⟨_,aM H [1,2,5,6] [2002,2066] (by intro y B h;right;have h9:=hbH y B h;simp only [aj];(repeat rw [if_neg (by omega)]);exact h),1+x.b%3-(k+1),by omega,k+1,l++[⟨(enc (dH z)),((le:Int)+((x.b/3%3:Nat):Int))⟩],?sa59,?na59,by omega,rfl,by simp;omega,?st59⟩;case st59=>(simp only [F9,seval,bx,gC,List.length_append];first|rfl|(simp;done))
  refine awR [] [0,0,0,113,113,113,113,0] ?_;simp only [F9,seval,hk0];repeat refine ob ?_
  refine awF ?_;refine awK ?_;simp only [F9,seval];refine awN ?_;simp only [F9,seval];repeat refine ob ?_
  refine awN ?_;simp only [F9,seval];repeat refine ob ?_
  repeat refine ob ?_
  refine ⟨_,aM H [1,2,5,6] [2002,2066] (by intro y B h;right;have h9:=hbH y B h;simp only [aj];(repeat rw [if_neg (by omega)]);exact h),1+x.b%3-(k+1),by omega,k+1,l++[⟨(enc (dH z)),((le:Int)+((x.b/3%3:Nat):Int))⟩],?sa63,?na63,by omega,rfl,by simp;omega,?st63⟩;case st63=>(simp only [F9,seval,bx,gC,List.length_append];first|rfl|(simp;done))
 refine awN ?_;simp only [F9,seval,cN4,hlt0,w1];repeat refine ob ?_
 refine awF ?_;refine awQ ?_;simp only [F9,seval];refine awN ?_;simp only [F9,seval];repeat refine ob ?_
 refine fW H [4] [2066] (by intro y B h;right;have h9:=hbH y B h;simp only [aj];(repeat rw [if_neg (by omega)]);exact h) ?_;simp only [F9,seval];refine awX ?_;simp only [F9,seval];exact ⟨l,s,by omega,by omega,rfl,rfl⟩
end Go.Proofs.YtclkgcigacbmiaaGreatDoor
