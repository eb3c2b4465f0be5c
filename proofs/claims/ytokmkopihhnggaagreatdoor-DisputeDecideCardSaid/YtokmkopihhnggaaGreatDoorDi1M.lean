/- The builders of disputes: all claims of a group, options; walked by the abstract machine. -/
import Derived.Test.YtokmkopihhnggaaGreatDoorDc2M
import Derived.Test.YtokmkopihhnggaaGreatDoorBl5M
import Derived.Test.YtokmkopihhnggaaGreatDoorAbGM
import Derived.Test.YtokmkopihhnggaaGreatDoorOw3M
import Derived.Test.YtokmkopihhnggaaGreatDoorFewM
import Derived.Test.YtokmkopihhnggaaGreatDoorVal1M
import Derived.Test.YtokmkopihhnggaaGreatDoorRef10M
set_option linter.unusedVariables false
set_option maxHeartbeats 4000000
set_option maxRecDepth 100000
set_option linter.unusedSimpArgs false
set_option linter.defProp false
namespace Go.Proofs.YtokmkopihhnggaaGreatDoor
open Go Go.RowKit Go.Proofs.Tryz
def spC (i:Nat) (out:List Leg):Nat->List Leg
 |0=>out
 |c+1=>spC i out c++[((i:Int),(c:Int))]
def spE:List GEst->Nat->List Leg->List Leg
 |[],_,out=>out
 |e::l,i,out=>spE l (i+1) (spC i out e.claims.length)
theorem JF (i:Nat) (out:List Leg):∀c,(spC i out c).length=out.length+c
 |0=>rfl
 |c+1=>by simp [spC,JF i out c];omega
def opG (x:GOpt):Prop:=(∃q:Rat,x.amount=enc q/\qB 1 q/\0<=q)/\0<=x.rank/\x.rank<=2
theorem NV (e:Int):∃z:Nat,IntKind.u16.wrap e=(z:Int)/\z<65536:=by
 refine ⟨(IntKind.u16.wrap e).toNat,?_,?_⟩<;>simp [IntKind.wrap,IntKind.bits,IntKind.signed]<;>omega
def F64:=And.intro zS (And.intro Gd (And.intro Ep (And.intro CF (And.intro Er (And.intro tu (And.intro BK (And.intro tv (And.intro mN (And.intro Gn (CG))))))))))
theorem F65:type_of%F64:=F64
theorem Nf (g:GGrp) (hng:g.ests.length<=1000000) (hcl:∀e∈g.ests,e.claims.length<=1000000):aR prog 58 [.agg (am g)] (.val (.one (.sh 2 (spE g.ests 0 []).length (aA gp (spE g.ests 0 []))))):=by
 refine aP func58 rfl (by decide) (N:=31) rfl (by simp) (R:=[.tmp 2]) rfl fun en k0=>?_
 refine awN ?_;simp only [F65,seval,am];repeat refine ob ?_
 refine awN ?_;simp only [F65,seval,am];repeat refine ob ?_
 refine awN ?_;simp only [F65,seval,am];repeat refine ob ?_
 refine gS 3 27 44 2 (by decide) (by rfl) ?_;refine aQ [1,3,8,9] [1,27] ?_;try simp only [ak,F65,seval,am]
 repeat' first|apply awS|apply awB
 refine aM (fun n st=>∃i0 out s nx,i0<=g.ests.length/\n=g.ests.length-i0/\spE (g.ests.drop i0) i0 out=spE g.ests 0 []/\out.length<=1000000*i0/\st=⟨mkT [(1,.val (.one (.ptr 1 0 0))),(3,.val (.one (.own 27 s (out).length 2))),(8,one (.int .i64 g.ests.length)),(9,one (.int .i64 i0))],mkH [(1,⟨0,28,2,1,am g⟩),(27,⟨s,44,2,(out).length,aA gp (out)⟩)],nx,0⟩) (g.ests.length) ⟨0,[],_,_,by omega,by omega,by rfl,(by first|omega|assumption|rfl|simp|(simp;omega)),rfl⟩ ?_;rintro n0 st ⟨i0,out,s,nx0,hk0,rfl,hL0,hV0_1,rfl⟩;by_cases hlt0:i0<g.ests.length
 ·skip;have hI0:(i0:Int)<(g.ests.length:Int):=by omega
  have hat0:=aO i4 g.ests i0 hlt0;try rw [Nat.mul_one] at hat0
  rw [List.drop_eq_getElem_cons hlt0] at hL0;have hce:=hcl g.ests[i0] (List.getElem_mem hlt0);generalize g.ests[i0]=e at *
  simp only [spE] at hL0;refine awN ?_;simp only [F65,seval,am,hI0,hat0,aJ];repeat refine ob ?_
  refine awT ?_;refine awK ?_;simp only [F65,seval];refine awN ?_;simp only [F65,seval,am,hI0,hat0,aJ];repeat refine ob ?_
  refine awN ?_;simp only [F65,seval,am,hI0,hat0,aJ,aJ];repeat refine ob ?_
  refine aQ [1,3,4,8,9,18,19] [1,27] ?_;try simp only [ak,F65,seval,am,hI0,hat0,aJ]
  repeat' first|apply awS|apply awB
  refine aM (fun n st=>∃c s nx,c<=e.claims.length/\n=e.claims.length-c/\st=⟨mkT [(1,.val (.one (.ptr 1 0 0))),(3,.val (.one (.own 27 s (spC i0 out c).length 2))),(4,one (.int .i64 i0)),(8,one (.int .i64 g.ests.length)),(9,one (.int .i64 i0)),(18,one (.int .i64 e.claims.length)),(19,one (.int .i64 c))],mkH [(1,⟨0,28,2,1,am g⟩),(27,⟨s,44,2,(spC i0 out c).length,aA gp (spC i0 out c)⟩)],nx,0⟩) (e.claims.length) ⟨0,_,_,by omega,by omega,rfl⟩ ?_;rintro n1 st ⟨c,s,nx1,hc,rfl,rfl⟩;by_cases hlt1:(c:Int)<(e.claims.length:Int)
  ·skip;refine awN ?_;simp only [F65,seval,am,hI0,hat0,aJ,hlt1];repeat refine ob ?_
   refine awT ?_;refine awK ?_;simp only [F65,seval];refine awN ?_;simp only [F65,seval,am,hI0,hat0,aJ,hlt1];repeat refine ob ?_
   have hsl:=JF i0 out c;refine awN ?_;simp only [F65,seval,am,hI0,hat0,aJ,hlt1,gp];repeat refine ob ?_
   refine awN ?_;simp only [F65,seval,am,hI0,hat0,aJ,hlt1];repeat refine ob ?_
   repeat refine ob ?_
   have hb:spC i0 out (c+1)=spC i0 out c++[((i0:Int),(c:Int))]:=rfl;refine ⟨_,aI [1,3,4,8,9,18,19] [1,27],e.claims.length-(c+1),by omega,c+1,?sa11,?na11,by omega,rfl,?st11⟩;case st11=>(simp only [F65,seval,hb,a7,gp,List.length_append,List.length_cons,List.length_nil];first|rfl|(simp;done))
  skip;refine awN ?_;simp only [F65,seval,am,hI0,hat0,aJ,hlt1];repeat refine ob ?_
  refine awF ?_;refine awQ ?_;simp only [F65,seval];obtain rfl:c=e.claims.length:=by omega
  have hsl:=JF i0 out e.claims.length;refine awN ?_;simp only [F65,seval,am,hI0,hat0,aJ,hlt1];repeat refine ob ?_
  repeat refine ob ?_
  refine ⟨_,aI [1,3,8,9] [1,27],g.ests.length-(i0+1),by omega,i0+1,(spC i0 out e.claims.length),?a13_s,?a13_nx,by omega,rfl,?i13_0,?i13_1,?st13⟩;case st13=>(simp only [F65,seval,am,hI0,hat0,aJ,hlt1];first|rfl|(simp [hI0,hat0,aJ,hlt1,Nat.add_mul];done))
  case i13_0=>(first|exact hL0|(rw [←hL0];simp only [reduceIte,hI0,hat0,aJ,hlt1];done)|(rw [←hL0];simp [hI0,hat0,aJ,hlt1];done)|(simp [hI0,hat0,aJ,hlt1] at hL0;simpa using hL0)|(rw [←hL0];simp [*];done))
  all_goals (first|omega|assumption|(simp;omega)|(simp_all;done))
 skip;obtain rfl:i0=g.ests.length:=by omega
 have hI0:¬(g.ests.length:Int)<(g.ests.length:Int):=by omega
 rw [List.drop_length] at hL0;simp only [spE] at hL0;refine awN ?_;simp only [F65,seval,am,hI0];repeat refine ob ?_
 refine awF ?_;refine awQ ?_;simp only [F65,seval];refine awN ?_;simp only [F65,seval,am,hI0];repeat refine ob ?_
 refine awX ?_;simp only [F65,seval,ab i5];simp [←hL0]
def F66:=And.intro zS (And.intro Ez (And.intro Hu (And.intro Hw (And.intro Hx (And.intro Gl (And.intro pr (And.intro jz (And.intro CL (And.intro H9 (And.intro CQ (And.intro Ic (And.intro tf4 (And.intro I3 (And.intro I4 (And.intro Ex (Id))))))))))))))))
theorem F67:type_of%F66:=F66
theorem LB (x:N4) (hx:Kp x) (H:Hp) (ny:Nat) (hbH:∀y B,H y=some B->y<2000∨3000<=y):cT prog 59 [.agg (cN4 x),.one (.lit (.int .i64 0))] H ny (fun res H' _=>∃l s,1<=l.length/\l.length<=3/\(∀y∈l,opG y)/\res= .val (.one (.own 2066 s l.length 4))/\H'=bZ H [(2066,⟨s,121,4,l.length,aA jU l⟩)]):=by
 obtain ⟨hxa,hxb,hxc,hxd⟩:=hx;have w1:(x.b:Int).tmod 3=((x.b%3:Nat):Int):=by norm_cast
 have w4:(x.d:Int).tmod 4=((x.d%4:Nat):Int):=by norm_cast
 have w2:(IntKind.u16.wrap ((x.b:Int).tdiv 9)).tmod 3=((x.b/9%3:Nat):Int):=by
  have h:=Kh (x.b/9) (by omega);rw [show (x.b:Int).tdiv 9=((x.b/9:Nat):Int) by norm_cast,h];norm_cast
 have w3:(IntKind.u16.wrap ((x.b:Int).tdiv 3)).tmod 3=((x.b/3%3:Nat):Int):=by
  have h:=Kh (x.b/3) (by omega);rw [show (x.b:Int).tdiv 3=((x.b/3:Nat):Int) by norm_cast,h];norm_cast
 refine cF 2000 func59 rfl (by decide) (N:=68) rfl (by simp) (Rl:=[.tmp 4]) rfl fun en k0=>?_
 refine awN ?_;simp only [F67,seval,cN4,ai];repeat refine ob ?_
 refine awN ?_;simp only [F67,seval,cN4,ai];repeat refine ob ?_
 refine awN ?_;simp only [F67,seval,cN4,ai];repeat refine ob ?_
 refine gS 5 2066 121 4 (by decide) (by rfl) ?_;refine eC H [1,2,5,6] [2002,2066] (by intro y B h;right;have h9:=hbH y B h;simp only [aB];(repeat rw [if_neg (by omega)]);exact h) ?_;try simp only [ak,F67,seval,cN4,ai]
 repeat' first|apply awS|apply awB
 refine aM (fun n st=>∃k l s nx,k<=1+x.b%3/\n=1+x.b%3-k/\l.length=k/\(∀y∈l,opG y)/\st=⟨mkT [(1,one (.int .i64 0)),(2,.val (.one (.ptr 2002 ny 0))),(5,.val (.one (.own 2066 s l.length 4))),(6,one (.int .i64 k))],bZ H [(2002,⟨ny,97,4,1,cN4 x⟩),(2066,⟨s,121,4,l.length,aA jU l⟩)],nx,2000⟩) (1+x.b%3) ⟨0,[],_,_,by omega,by omega,rfl,by simp,rfl⟩ ?_;rintro n0 st ⟨k,l,s,nx0,hk,rfl,hll,hgo,rfl⟩;by_cases hlt0:(k:Int)<1+((x.b%3:Nat):Int)
 ·refine awN ?_;simp only [F67,seval,cN4,ai,hlt0,w1];repeat refine ob ?_
  refine awT ?_;refine awK ?_;simp only [F67,seval];obtain ⟨z,hz9e,hz9⟩:=NV ((x.c:Int)+IntKind.u16.wrap (IntKind.u16.wrap (37*(k:Int))*IntKind.u16.wrap ((BitVec.ofInt IntKind.u16.bits (x.d:Int)|||BitVec.ofInt IntKind.u16.bits 1).toNat:Int)));refine awD (scT 0 10 (scT 11 7 (.two 10 19 (scq [37,38,40] .nil) (scq [20,37,40] .nil)))) [0,0,0,0,0,0,0,0,0,0,0,0,0,0,0,0,0,0,0,0,0] ?_;simp only [F67,seval,cN4,ai,hlt0,w3,hz9e,Int.zero_add];repeat refine ob ?_
  refine ⟨?_,?_⟩
  ·repeat refine ob ?_
   refine ⟨_,(pl z hz9),rfl,?_⟩;try simp only [ak,F67,seval,cN4,ai,hlt0,w3,hz9e,Int.zero_add]
   repeat refine ob ?_
   by_cases ha:((x.b/9%3:Nat):Int)=0
   ·refine awN ?_;simp only [F67,seval,cN4,ai,hlt0,ha,w2];repeat refine ob ?_
    refine awT ?_;have w5:IntKind.u64.wrap (2*(k:Int))=((2*k:Nat):Int):=by have:=LM (2*k) (by omega);rw [←this];norm_cast
    have w6:=Nu x.d (2*k) hxd (by omega);obtain ⟨m,hm⟩:∃m,m=x.d/2^(2*k)%4:=⟨_,rfl⟩;rw [←hm] at w6;have w7:(m:Int).tmod 3=((m%3:Nat):Int):=by norm_cast
    refine awN ?_;simp only [F67,seval,cN4,ai,hlt0,ha,w5,w6,w7,Int.zero_add];repeat refine ob ?_
    by_cases hk0:(0:Int)<(k:Int)
    ·by_cases hz:((x.d%4:Nat):Int)=0
     ·refine awR [] [0,0,0,113,113,113,113,0] ?_;simp only [F67,seval,cN4,ai,hlt0,ha,hk0,hz,w4];repeat refine ob ?_
      refine awT ?_;refine awN ?_;simp only [F67,seval,cN4,ai,hlt0,ha,hk0,hz];repeat refine ob ?_
      refine awN ?_;simp only [F67,seval,cN4,ai,hlt0,ha,hk0,hz];repeat refine ob ?_
      refine awN ?_;simp only [F67,seval,cN4,ai,hlt0,ha,hk0,hz];repeat refine ob ?_
      repeat refine ob ?_
      refine ⟨_,fP H [1,2,5,6] [2002,2066] (by intro y B h;right;have h9:=hbH y B h;simp only [aB];(repeat rw [if_neg (by omega)]);exact h),1+x.b%3-(k+1),by omega,k+1,l++[⟨⟨false,ay,ay⟩,((m%3:Nat):Int)⟩],?sa12,?na12,by omega,rfl,by simp;omega,?go12,?st12⟩;case st12=>(simp only [F67,seval,a7,jU,List.length_append,List.length_cons,List.length_nil];first|rfl|(simp;done))
      case go12=>
       intro y hy;rcases List.mem_append.1 hy with h|h
       ·exact hgo y h
       obtain rfl:=List.mem_singleton.1 h;exact ⟨⟨0,jx.symm,bW,by decide⟩,Int.natCast_nonneg _,by simp;omega⟩
     refine awR [] [0,0,0,113,113,113,113,0] ?_;simp only [F67,seval,cN4,ai,hlt0,ha,hk0,hz,w4];repeat refine ob ?_
     refine awF ?_;refine awK ?_;simp only [F67,seval];refine awN ?_;simp only [F67,seval,cN4,ai,hlt0,ha,hk0,hz];repeat refine ob ?_
     refine awN ?_;simp only [F67,seval,cN4,ai,hlt0,ha,hk0,hz];repeat refine ob ?_
     repeat refine ob ?_
     refine ⟨_,fP H [1,2,5,6] [2002,2066] (by intro y B h;right;have h9:=hbH y B h;simp only [aB];(repeat rw [if_neg (by omega)]);exact h),1+x.b%3-(k+1),by omega,k+1,l++[⟨(enc (kG z)),((m%3:Nat):Int)⟩],?sa16,?na16,by omega,rfl,by simp;omega,?go16,?st16⟩;case st16=>(simp only [F67,seval,a7,jU,List.length_append,List.length_cons,List.length_nil];first|rfl|(simp;done))
     case go16=>
      intro y hy;rcases List.mem_append.1 hy with h|h
      ·exact hgo y h
      obtain rfl:=List.mem_singleton.1 h;exact ⟨⟨_,rfl,na z,kT z⟩,Int.natCast_nonneg _,by simp;omega⟩
    refine awR [] [0,0,0,113,113,113,113,0] ?_;simp only [F67,seval,cN4,ai,hlt0,ha,hk0,w4];repeat refine ob ?_
    refine awF ?_;refine awK ?_;simp only [F67,seval];refine awN ?_;simp only [F67,seval,cN4,ai,hlt0,ha,hk0];repeat refine ob ?_
    refine awN ?_;simp only [F67,seval,cN4,ai,hlt0,ha,hk0];repeat refine ob ?_
    repeat refine ob ?_
    refine ⟨_,fP H [1,2,5,6] [2002,2066] (by intro y B h;right;have h9:=hbH y B h;simp only [aB];(repeat rw [if_neg (by omega)]);exact h),1+x.b%3-(k+1),by omega,k+1,l++[⟨(enc (kG z)),((m%3:Nat):Int)⟩],?sa20,?na20,by omega,rfl,by simp;omega,?go20,?st20⟩;case st20=>(simp only [F67,seval,a7,jU,List.length_append,List.length_cons,List.length_nil];first|rfl|(simp;done))
    case go20=>
     intro y hy;rcases List.mem_append.1 hy with h|h
     ·exact hgo y h
     obtain rfl:=List.mem_singleton.1 h;exact ⟨⟨_,rfl,na z,kT z⟩,Int.natCast_nonneg _,by simp;omega⟩
   refine awN ?_;simp only [F67,seval,cN4,ai,hlt0,ha,w2];repeat refine ob ?_
   refine awF ?_;refine awK ?_;simp only [F67,seval];by_cases hk0:(0:Int)<(k:Int)
   ·by_cases hz:((x.d%4:Nat):Int)=0
    ·refine awR [] [0,0,0,113,113,113,113,0] ?_;simp only [F67,seval,cN4,ai,hlt0,ha,hk0,hz,w4];repeat refine ob ?_
     refine awT ?_;refine awN ?_;simp only [F67,seval,cN4,ai,hlt0,ha,hk0,hz];repeat refine ob ?_
     refine awN ?_;simp only [F67,seval,cN4,ai,hlt0,ha,hk0,hz];repeat refine ob ?_
     refine awN ?_;simp only [F67,seval,cN4,ai,hlt0,ha,hk0,hz];repeat refine ob ?_
     repeat refine ob ?_
     refine ⟨_,fP H [1,2,5,6] [2002,2066] (by intro y B h;right;have h9:=hbH y B h;simp only [aB];(repeat rw [if_neg (by omega)]);exact h),1+x.b%3-(k+1),by omega,k+1,l++[⟨⟨false,ay,ay⟩,((x.b/3%3:Nat):Int)⟩],?sa26,?na26,by omega,rfl,by simp;omega,?go26,?st26⟩;case st26=>(simp only [F67,seval,a7,jU,List.length_append,List.length_cons,List.length_nil];first|rfl|(simp;done))
     case go26=>
      intro y hy;rcases List.mem_append.1 hy with h|h
      ·exact hgo y h
      obtain rfl:=List.mem_singleton.1 h;exact ⟨⟨0,jx.symm,bW,by decide⟩,Int.natCast_nonneg _,by simp;omega⟩
    refine awR [] [0,0,0,113,113,113,113,0] ?_;simp only [F67,seval,cN4,ai,hlt0,ha,hk0,hz,w4];repeat refine ob ?_
    refine awF ?_;refine awK ?_;simp only [F67,seval];refine awN ?_;simp only [F67,seval,cN4,ai,hlt0,ha,hk0,hz];repeat refine ob ?_
    refine awN ?_;simp only [F67,seval,cN4,ai,hlt0,ha,hk0,hz];repeat refine ob ?_
    repeat refine ob ?_
    refine ⟨_,fP H [1,2,5,6] [2002,2066] (by intro y B h;right;have h9:=hbH y B h;simp only [aB];(repeat rw [if_neg (by omega)]);exact h),1+x.b%3-(k+1),by omega,k+1,l++[⟨(enc (kG z)),((x.b/3%3:Nat):Int)⟩],?sa30,?na30,by omega,rfl,by simp;omega,?go30,?st30⟩;case st30=>(simp only [F67,seval,a7,jU,List.length_append,List.length_cons,List.length_nil];first|rfl|(simp;done))
    case go30=>
     intro y hy;rcases List.mem_append.1 hy with h|h
     ·exact hgo y h
     obtain rfl:=List.mem_singleton.1 h;exact ⟨⟨_,rfl,na z,kT z⟩,Int.natCast_nonneg _,by simp;omega⟩
   refine awR [] [0,0,0,113,113,113,113,0] ?_;simp only [F67,seval,cN4,ai,hlt0,ha,hk0,w4];repeat refine ob ?_
   refine awF ?_;refine awK ?_;simp only [F67,seval];refine awN ?_;simp only [F67,seval,cN4,ai,hlt0,ha,hk0];repeat refine ob ?_
   refine awN ?_;simp only [F67,seval,cN4,ai,hlt0,ha,hk0];repeat refine ob ?_
   repeat refine ob ?_
   refine ⟨_,fP H [1,2,5,6] [2002,2066] (by intro y B h;right;have h9:=hbH y B h;simp only [aB];(repeat rw [if_neg (by omega)]);exact h),1+x.b%3-(k+1),by omega,k+1,l++[⟨(enc (kG z)),((x.b/3%3:Nat):Int)⟩],?sa34,?na34,by omega,rfl,by simp;omega,?go34,?st34⟩;case st34=>(simp only [F67,seval,a7,jU,List.length_append,List.length_cons,List.length_nil];first|rfl|(simp;done))
   case go34=>
    intro y hy;rcases List.mem_append.1 hy with h|h
    ·exact hgo y h
    obtain rfl:=List.mem_singleton.1 h;exact ⟨⟨_,rfl,na z,kT z⟩,Int.natCast_nonneg _,by simp;omega⟩
  repeat refine ob ?_
  refine ⟨_,(pl z hz9),rfl,?_⟩;try simp only [ak,F67,seval,cN4,ai,hlt0,w3,hz9e,Int.zero_add]
  repeat refine ob ?_
  by_cases ha:((x.b/9%3:Nat):Int)=0
  ·refine awN ?_;simp only [F67,seval,cN4,ai,hlt0,ha,w2];repeat refine ob ?_
   refine awT ?_;have w5:IntKind.u64.wrap (2*(k:Int))=((2*k:Nat):Int):=by have:=LM (2*k) (by omega);rw [←this];norm_cast
   have w6:=Nu x.d (2*k) hxd (by omega);obtain ⟨m,hm⟩:∃m,m=x.d/2^(2*k)%4:=⟨_,rfl⟩;rw [←hm] at w6;have w7:(m:Int).tmod 3=((m%3:Nat):Int):=by norm_cast
   refine awN ?_;simp only [F67,seval,cN4,ai,hlt0,ha,w5,w6,w7,Int.zero_add];repeat refine ob ?_
   by_cases hk0:(0:Int)<(k:Int)
   ·by_cases hz:((x.d%4:Nat):Int)=0
    ·refine awR [] [0,0,0,113,113,113,113,0] ?_;simp only [F67,seval,cN4,ai,hlt0,ha,hk0,hz,w4];repeat refine ob ?_
     refine awT ?_;refine awN ?_;simp only [F67,seval,cN4,ai,hlt0,ha,hk0,hz];repeat refine ob ?_
     refine awN ?_;simp only [F67,seval,cN4,ai,hlt0,ha,hk0,hz];repeat refine ob ?_
     refine awN ?_;simp only [F67,seval,cN4,ai,hlt0,ha,hk0,hz];repeat refine ob ?_
     repeat refine ob ?_
     refine ⟨_,fP H [1,2,5,6] [2002,2066] (by intro y B h;right;have h9:=hbH y B h;simp only [aB];(repeat rw [if_neg (by omega)]);exact h),1+x.b%3-(k+1),by omega,k+1,l++[⟨⟨false,ay,ay⟩,((m%3:Nat):Int)⟩],?sa41,?na41,by omega,rfl,by simp;omega,?go41,?st41⟩;case st41=>(simp only [F67,seval,a7,jU,List.length_append,List.length_cons,List.length_nil];first|rfl|(simp;done))
     case go41=>
      intro y hy;rcases List.mem_append.1 hy with h|h
      ·exact hgo y h
      obtain rfl:=List.mem_singleton.1 h;exact ⟨⟨0,jx.symm,bW,by decide⟩,Int.natCast_nonneg _,by simp;omega⟩
    refine awR [] [0,0,0,113,113,113,113,0] ?_;simp only [F67,seval,cN4,ai,hlt0,ha,hk0,hz,w4];repeat refine ob ?_
    refine awF ?_;refine awK ?_;simp only [F67,seval];refine awN ?_;simp only [F67,seval,cN4,ai,hlt0,ha,hk0,hz];repeat refine ob ?_
    refine awN ?_;simp only [F67,seval,cN4,ai,hlt0,ha,hk0,hz];repeat refine ob ?_
    repeat refine ob ?_
    refine ⟨_,fP H [1,2,5,6] [2002,2066] (by intro y B h;right;have h9:=hbH y B h;simp only [aB];(repeat rw [if_neg (by omega)]);exact h),1+x.b%3-(k+1),by omega,k+1,l++[⟨(enc (kG z)),((m%3:Nat):Int)⟩],?sa45,?na45,by omega,rfl,by simp;omega,?go45,?st45⟩;case st45=>(simp only [F67,seval,a7,jU,List.length_append,List.length_cons,List.length_nil];first|rfl|(simp;done))
    case go45=>
     intro y hy;rcases List.mem_append.1 hy with h|h
     ·exact hgo y h
     obtain rfl:=List.mem_singleton.1 h;exact ⟨⟨_,rfl,na z,kT z⟩,Int.natCast_nonneg _,by simp;omega⟩
   refine awR [] [0,0,0,113,113,113,113,0] ?_;simp only [F67,seval,cN4,ai,hlt0,ha,hk0,w4];repeat refine ob ?_
   refine awF ?_;refine awK ?_;simp only [F67,seval];refine awN ?_;simp only [F67,seval,cN4,ai,hlt0,ha,hk0];repeat refine ob ?_
   refine awN ?_;simp only [F67,seval,cN4,ai,hlt0,ha,hk0];repeat refine ob ?_
   repeat refine ob ?_
   refine ⟨_,fP H [1,2,5,6] [2002,2066] (by intro y B h;right;have h9:=hbH y B h;simp only [aB];(repeat rw [if_neg (by omega)]);exact h),1+x.b%3-(k+1),by omega,k+1,l++[⟨(enc (kG z)),((m%3:Nat):Int)⟩],?sa49,?na49,by omega,rfl,by simp;omega,?go49,?st49⟩;case st49=>(simp only [F67,seval,a7,jU,List.length_append,List.length_cons,List.length_nil];first|rfl|(simp;done))
   case go49=>
    intro y hy;rcases List.mem_append.1 hy with h|h
    ·exact hgo y h
    obtain rfl:=List.mem_singleton.1 h;exact ⟨⟨_,rfl,na z,kT z⟩,Int.natCast_nonneg _,by simp;omega⟩
  refine awN ?_;simp only [F67,seval,cN4,ai,hlt0,ha,w2];repeat refine ob ?_
  refine awF ?_;refine awK ?_;simp only [F67,seval];by_cases hk0:(0:Int)<(k:Int)
  ·by_cases hz:((x.d%4:Nat):Int)=0
   ·refine awR [] [0,0,0,113,113,113,113,0] ?_;simp only [F67,seval,cN4,ai,hlt0,ha,hk0,hz,w4];repeat refine ob ?_
    refine awT ?_;refine awN ?_;simp only [F67,seval,cN4,ai,hlt0,ha,hk0,hz];repeat refine ob ?_
    refine awN ?_;simp only [F67,seval,cN4,ai,hlt0,ha,hk0,hz];repeat refine ob ?_
    refine awN ?_;simp only [F67,seval,cN4,ai,hlt0,ha,hk0,hz];repeat refine ob ?_
    repeat refine ob ?_
    refine ⟨_,fP H [1,2,5,6] [2002,2066] (by intro y B h;right;have h9:=hbH y B h;simp only [aB];(repeat rw [if_neg (by omega)]);exact h),1+x.b%3-(k+1),by omega,k+1,l++[⟨⟨false,ay,ay⟩,((x.b/3%3:Nat):Int)⟩],?sa55,?na55,by omega,rfl,by simp;omega,?go55,?st55⟩;case st55=>(simp only [F67,seval,a7,jU,List.length_append,List.length_cons,List.length_nil];first|rfl|(simp;done))
    case go55=>
     intro y hy;rcases List.mem_append.1 hy with h|h
     ·exact hgo y h
     obtain rfl:=List.mem_singleton.1 h;exact ⟨⟨0,jx.symm,bW,by decide⟩,Int.natCast_nonneg _,by simp;omega⟩
   refine awR [] [0,0,0,113,113,113,113,0] ?_;simp only [F67,seval,cN4,ai,hlt0,ha,hk0,hz,w4];repeat refine ob ?_
   refine awF ?_;refine awK ?_;simp only [F67,seval];refine awN ?_;simp only [F67,seval,cN4,ai,hlt0,ha,hk0,hz];repeat refine ob ?_
   refine awN ?_;simp only [F67,seval,cN4,ai,hlt0,ha,hk0,hz];repeat refine ob ?_
   repeat refine ob ?_
   refine ⟨_,fP H [1,2,5,6] [2002,2066] (by intro y B h;right;have h9:=hbH y B h;simp only [aB];(repeat rw [if_neg (by omega)]);exact h),1+x.b%3-(k+1),by omega,k+1,l++[⟨(enc (kG z)),((x.b/3%3:Nat):Int)⟩],?sa59,?na59,by omega,rfl,by simp;omega,?go59,?st59⟩;case st59=>(simp only [F67,seval,a7,jU,List.length_append,List.length_cons,List.length_nil];first|rfl|(simp;done))
   case go59=>
    intro y hy;rcases List.mem_append.1 hy with h|h
    ·exact hgo y h
    obtain rfl:=List.mem_singleton.1 h;exact ⟨⟨_,rfl,na z,kT z⟩,Int.natCast_nonneg _,by simp;omega⟩
  refine awR [] [0,0,0,113,113,113,113,0] ?_;simp only [F67,seval,cN4,ai,hlt0,ha,hk0,w4];repeat refine ob ?_
  refine awF ?_;refine awK ?_;simp only [F67,seval];refine awN ?_;simp only [F67,seval,cN4,ai,hlt0,ha,hk0];repeat refine ob ?_
  refine awN ?_;simp only [F67,seval,cN4,ai,hlt0,ha,hk0];repeat refine ob ?_
  repeat refine ob ?_
  refine ⟨_,fP H [1,2,5,6] [2002,2066] (by intro y B h;right;have h9:=hbH y B h;simp only [aB];(repeat rw [if_neg (by omega)]);exact h),1+x.b%3-(k+1),by omega,k+1,l++[⟨(enc (kG z)),((x.b/3%3:Nat):Int)⟩],?sa63,?na63,by omega,rfl,by simp;omega,?go63,?st63⟩;case st63=>(simp only [F67,seval,a7,jU,List.length_append,List.length_cons,List.length_nil];first|rfl|(simp;done))
  case go63=>
   intro y hy;rcases List.mem_append.1 hy with h|h
   ·exact hgo y h
   obtain rfl:=List.mem_singleton.1 h;exact ⟨⟨_,rfl,na z,kT z⟩,Int.natCast_nonneg _,by simp;omega⟩
 refine awN ?_;simp only [F67,seval,cN4,ai,hlt0,w1];repeat refine ob ?_
 refine awF ?_;refine awQ ?_;simp only [F67,seval];refine awN ?_;simp only [F67,seval,cN4,ai,hlt0];repeat refine ob ?_
 refine eC H [4] [2066] (by intro y B h;right;have h9:=hbH y B h;simp only [aB];(repeat rw [if_neg (by omega)]);exact h) ?_;simp only [F67,seval];refine awX ?_;simp only [F67,seval];exact ⟨l,s,by omega,by omega,hgo,rfl,rfl⟩
theorem EG (r1 r2:GRat) (m n:Nat) (h1:sB m r1) (h2:sB n r2) (hm:m<=100000000000) (hn:n<=100000000000) (hm0:0<m) (hn0:0<n):aR prog 31 [.agg (ai r1),.agg (ai r2)] (.val (.agg (ai (enc (qOf r1+qOf r2))))):=
 bj (ch func31 (by decide) (by kernel_rfl)) [aF r1,aF r2] (aF (enc (qOf r1+qOf r2))) fun w=>CA r1 r2 m n w h1 h2 hm hn hm0 hn0
theorem I9 (r:GRat) (h1:r.num.size<=500000000000) (h2:r.den.size<=500000000000):aR prog 116 [.agg (ai r)] (.val (.agg (ai (enc (qOf r))))):=
 bj (ch func116 (by decide) (by kernel_rfl)) [aF r] (aF (enc (qOf r))) fun w=>pj r w h1 h2
end Go.Proofs.YtokmkopihhnggaaGreatDoor
