/- The builder's agreements; walked by the abstract machine. -/
import Derived.Test.YtokmkopihhnggaaGreatDoorDc2M
import Derived.Test.YtokmkopihhnggaaGreatDoorAbGM
set_option linter.unusedVariables false
set_option maxHeartbeats 4000000
set_option maxRecDepth 100000
set_option linter.unusedSimpArgs false
set_option linter.defProp false
set_option linter.unusedSectionVars false
namespace Go.Proofs.YtokmkopihhnggaaGreatDoor
open Go Go.RowKit Go.Proofs.Tryz
structure T3 where
 a:List GPart
 b:List GPart
 c:List GPart
def T3.put (T:T3) (x:Nat) (p:GPart):T3:=if x=1 then ⟨T.a++[p],T.b,T.c⟩ else if x=2 then ⟨T.a,T.b++[p],T.c⟩ else ⟨T.a,T.b,T.c++[p]⟩
noncomputable def bgP (p:N3) (i:Nat):GPart:=if p.c/2^i%2=1 then ⟨i,true,enc (((p.c/64%9:Nat):Int):Rat)⟩ else ⟨i,false,gZ⟩
def bgB (p:N3) (i:Nat):Nat:=p.b/4^i%4
noncomputable def bgS (agrs:List bR) (p:N3) (i:Nat) (T:T3):T3:=if bgB p i=0 then T else if frA i agrs=true then T.put (bgB p i) (bgP p i) else T
noncomputable def bgL (agrs:List bR) (p:N3):List GClaim->Nat->T3->T3
 |[],_,T=>T
 |_::l,i,T=>bgL agrs p l (i+1) (bgS agrs p i T)
noncomputable def bgT (p:N3) (T:T3):T3:=if p.a/8%4=0 then T.put (p.a/32%3+1) ⟨-1,true,enc (((p.a/96%7:Nat):Int):Rat)⟩ else T
noncomputable def bgN (e:GEst) (p:N3):bR:=[(bgT p (bgL e.agrs p e.claims 0 ⟨[],[],[]⟩)).a,(bgT p (bgL e.agrs p e.claims 0 ⟨[],[],[]⟩)).b,(bgT p (bgL e.agrs p e.claims 0 ⟨[],[],[]⟩)).c]
theorem Kh (n:Nat) (h:n<65536):IntKind.u16.wrap (n:Int)=n:=by simp [IntKind.wrap,IntKind.bits,IntKind.signed];omega
theorem LM (n:Nat) (h:n<18446744073709551616):IntKind.u64.wrap (n:Int)=n:=by simp [IntKind.wrap,IntKind.bits,IntKind.signed];omega
theorem wri (n:Nat) (h:n<9223372036854775808):IntKind.i64.wrap (n:Int)=n:=sK ((El _).2 ⟨by omega,by omega⟩)
theorem Ob (n j:Nat) (hn:n<65536) (hj:j<=64):IntKind.i64.wrap ((BitVec.ofInt IntKind.i64.bits ((n:Int).fdiv (2^min j IntKind.i64.bits))&&&BitVec.ofInt IntKind.i64.bits 3).toNat:Int)=((n/2^j%4:Nat):Int):=by
 have h1:(BitVec.ofInt 64 ((n:Int).fdiv (2^min j 64))&&&BitVec.ofInt 64 3).toNat=n/2^j%4:=by
  rw [Nat.min_eq_left hj];have h1:(n:Int).fdiv (2^j)=((n/2^j:Nat):Int):=by
   have:(2:Int)^j=((2^j:Nat):Int):=by norm_cast
   rw [this,Int.fdiv_eq_ediv_of_nonneg _ (Int.natCast_nonneg _)];norm_cast
  have h2:n/2^j<65536:=Nat.lt_of_le_of_lt (Nat.div_le_self _ _) hn;rw [h1,BitVec.ofInt_natCast,BitVec.toNat_and,BitVec.toNat_ofNat,Nat.mod_eq_of_lt (a:=n/2^j) (by omega)];exact Nat.and_two_pow_sub_one_eq_mod (n:=2) _
 have h3:IntKind.i64.bits=64:=rfl;rw [h3,h1];exact wri _ (by omega)
theorem Nz (n j:Nat) (hn:n<65536) (hj:j<=64):IntKind.i64.wrap ((BitVec.ofInt IntKind.i64.bits ((n:Int).fdiv (2^min j IntKind.i64.bits))&&&BitVec.ofInt IntKind.i64.bits 1).toNat:Int)=((n/2^j%2:Nat):Int):=by
 have h1:(BitVec.ofInt 64 ((n:Int).fdiv (2^min j 64))&&&BitVec.ofInt 64 1).toNat=n/2^j%2:=by
  rw [Nat.min_eq_left hj];have h1:(n:Int).fdiv (2^j)=((n/2^j:Nat):Int):=by
   have:(2:Int)^j=((2^j:Nat):Int):=by norm_cast
   rw [this,Int.fdiv_eq_ediv_of_nonneg _ (Int.natCast_nonneg _)];norm_cast
  have h2:n/2^j<65536:=Nat.lt_of_le_of_lt (Nat.div_le_self _ _) hn;rw [h1,BitVec.ofInt_natCast,BitVec.toNat_and,BitVec.toNat_ofNat,Nat.mod_eq_of_lt (a:=n/2^j) (by omega)];exact Nat.and_two_pow_sub_one_eq_mod (n:=1) _
 have h3:IntKind.i64.bits=64:=rfl;rw [h3,h1];exact wri _ (by omega)
theorem Mp (k:Nat):2^(2*k)=4^k:=by rw [Nat.pow_mul]
def cN3 (p:N3):List C:=[.lit (.int .u16 p.a),.lit (.int .u16 p.b),.lit (.int .u16 p.c)]
theorem Ki (n:Int) (h0: -9223372036854775808<=n) (h1:n<=9223372036854775807):aR prog 14 [.one (.lit (.int .i64 n))] (.val (.agg (ai (enc (n:Rat))))):=
 bj (ch func14 (by decide) (by kernel_rfl)) [.int .i64 n] (aF (enc (n:Rat))) fun w=>Jt n w h0 h1
theorem pl (x:Nat) (hx:x<65536):aR prog 30 [.one (.lit (.int .u16 x))] (.val (.agg (ai (enc (kG x))))):=
 bj (ch func30 (by decide) (by kernel_rfl)) [.int .u16 x] (aF (enc (kG x))) fun w=>Lg x w hx
theorem Lt (agrs:List bR) (p:N3) (i:Nat) (T:T3):(bgS agrs p i T).a.length<=T.a.length+1/\(bgS agrs p i T).b.length<=T.b.length+1/\(bgS agrs p i T).c.length<=T.c.length+1:=by
 unfold bgS T3.put;repeat' split
 all_goals (simp)
def F58:=And.intro zS (And.intro Ey (And.intro tf1 (And.intro tf2 (And.intro IZ (And.intro Ep (And.intro tf0 (And.intro tu (And.intro Ht (And.intro Hs (And.intro ic (And.intro Gf (And.intro tv (And.intro tf3 (And.intro CH (And.intro AU (And.intro pr (And.intro Es (And.intro CL (And.intro Hy (And.intro CN (And.intro CP (And.intro tf4 (And.intro I3 (And.intro I4 (And.intro Hz (And.intro Gh (tf5)))))))))))))))))))))))))))
theorem F59:type_of%F58:=F58
theorem Na (e:GEst) (p:N3) (hp:p.a<65536/\p.b<65536/\p.c<65536) (hc:e.claims.length<=30) (hn:e.agrs.length<=1000000000000) (he:∀a∈e.agrs,a.length<=1000000000000/\∀t∈a,t.length<=1000000000000):aR prog 48 [.agg (aJ e),.agg (cN3 p)] (.val (.one (.sh 1 (e.agrs++[bgN e p]).length (aA bu (e.agrs++[bgN e p]))))):=by
 refine aP func48 rfl (by decide) (N:=99) rfl (by simp) (R:=[.tmp 4]) rfl fun en k0=>?_
 refine awN ?_;simp only [F59,seval,aJ,cN3];refine awN ?_;simp only [F59,seval];refine awN ?_;simp only [F59,seval];repeat refine ob ?_
 refine awN ?_;simp only [F59,seval];refine lX 11 0 1063 _ 46 5 (by decide) (by rfl) (by decide) (by simp) (by rfl) ?_;refine lX 11 1 2063 _ 46 5 (by decide) (by rfl) (by decide) (by simp) (by rfl) ?_;refine lX 11 2 3063 _ 46 5 (by decide) (by rfl) (by decide) (by simp) (by rfl) ?_;refine aQ [2,3,4,5,6,17,18] [2,3,11,1063,2063,3063] ?_;try simp only [ak,F59,seval,a7,List.length_append]
 repeat' first|apply awS|apply awB
 refine aM (fun n st=>∃k0 T s1 s2 s3 nx,k0<=e.claims.length/\n=e.claims.length-k0/\bgL e.agrs p (e.claims.drop k0) k0 T=bgL e.agrs p e.claims 0 ⟨[],[],[]⟩/\T.a.length<=k0/\T.b.length<=k0/\T.c.length<=k0/\st=⟨mkT [(2,.val (.one (.ptr 2 0 0))),(3,.val (.one (.ptr 3 1 0))),(4,.val (.one (.lit (.slice none 0 0)))),(5,.val (.one (.own 11 2 3 1))),(6,one (.int .i64 p.b)),(17,one (.int .i64 e.claims.length)),(18,one (.int .i64 k0))],mkH [(2,⟨0,36,5,1,aJ e⟩),(3,⟨1,98,3,1,cN3 p⟩),(11,⟨2,47,1,3,[.own 1063 s1 T.a.length 5,.own 2063 s2 T.b.length 5,.own 3063 s3 T.c.length 5]⟩),(1063,⟨s1,46,5,T.a.length,aA bT T.a⟩),(2063,⟨s2,46,5,T.b.length,aA bT T.b⟩),(3063,⟨s3,46,5,T.c.length,aA bT T.c⟩)],nx,0⟩) (e.claims.length) ⟨0,⟨[],[],[]⟩,_,_,_,_,by omega,by omega,by rfl,(by first|omega|assumption|rfl|simp|(simp;omega)),(by first|omega|assumption|rfl|simp|(simp;omega)),(by first|omega|assumption|rfl|simp|(simp;omega)),rfl⟩ ?_;rintro n0 st ⟨k0,T,s1,s2,s3,nx0,hk0,rfl,hL0,hV0_1,hV0_2,hV0_3,rfl⟩;by_cases hlt0:k0<e.claims.length
 ·have hI0:(k0:Int)<(e.claims.length:Int):=by omega
  rw [List.drop_eq_getElem_cons hlt0] at hL0;have aL:=Lt e.agrs p k0 T;simp only [bgL] at hL0;refine awN ?_;simp only [F59,seval,aJ,cN3,hI0];refine awT ?_;refine awK ?_;simp only [F59,seval];refine awN ?_;simp only [F59,seval];have w2:IntKind.u64.wrap (2*(k0:Int))=((2*k0:Nat):Int):=by have:=LM (2*k0) (by omega);rw [←this];norm_cast
  have w3:=Ob p.b (2*k0) hp.2.1 (by omega);rw [Mp] at w3;change _=((bgB p k0:Nat):Int) at w3;refine awN ?_;simp only [F59,seval,w2,w3];repeat refine ob ?_
  by_cases hx:((bgB p k0:Nat):Int)=0
  ·have yhx:bgB p k0=0:=by omega
   refine awR [] [0,0,0,60,60,60,60,0] ?_;simp only [F59,seval,yhx];refine awT ?_;refine awQ ?_;simp only [F59,seval];refine awN ?_;simp only [F59,seval];repeat refine ob ?_
   refine ⟨_,aI [2,3,4,5,6,17,18] [2,3,11,1063,2063,3063],e.claims.length-(k0+1),by omega,k0+1,(bgS e.agrs p k0 T),?a9_s1,?a9_s2,?a9_s3,?a9_nx,by omega,rfl,?i9_0,?i9_1,?i9_2,?i9_3,?st9⟩;case st9=>(simp only [F59,seval,bgS,yhx];first|rfl|(simp [bgS,T3.put,bgP,a7,bT,List.length_append,List.length_cons,List.length_nil,hI0,hx,yhx,Nat.add_mul];done))
   case i9_0=>(first|exact hL0|(rw [←hL0];simp only [reduceIte,hI0,hx,yhx];done)|(rw [←hL0];simp [hI0,hx,yhx];done)|(simp [hI0,hx,yhx] at hL0;simpa using hL0)|(rw [←hL0];simp [*];done))
   all_goals (first|omega|assumption|(simp;omega)|(simp_all;done))
  have yhx:¬bgB p k0=0:=by omega
  by_cases hfr:frA k0 e.agrs=true
  ·refine awR [] [0,0,0,60,60,60,60,0] ?_;simp only [F59,seval,hx,ab ao,ab au];refine ⟨_,(Mo e k0 hn he),rfl,?_⟩;try simp only [ak,F59,seval,hfr]
   refine awF ?_;refine awK ?_;simp only [F59,seval];refine awN ?_;simp only [F59,seval];by_cases hb:((p.c/2^k0%2:Nat):Int)=1
   ·have yhb:p.c/2^k0%2=1:=by omega
    have w4:=LM k0 (by omega);have w5:=Nz p.c k0 hp.2.2 (by omega);refine awN ?_;simp only [F59,seval,yhb,w4,w5];repeat refine ob ?_
    refine awT ?_;refine awN ?_;simp only [F59,seval];have w6:((p.c:Nat):Int).fdiv (2^min 6 IntKind.u16.bits)=((p.c/64:Nat):Int):=by show ((p.c:Nat):Int).fdiv 64=_;rw [Int.fdiv_eq_ediv_of_nonneg _ (by decide)];norm_cast
    have w7:((p.c/64:Nat):Int).tmod 9=((p.c/64%9:Nat):Int):=by norm_cast
    refine awN ?_;simp only [F59,seval,w6,w7];repeat refine ob ?_
    refine ⟨_,(Ki ((p.c/64%9:Nat):Int) (by omega) (by omega)),rfl,?_⟩;try simp only [ak,F59,seval,ai]
    by_cases x1:((bgB p k0:Nat):Int)=1
    ·have yx1:bgB p k0=1:=by omega
     refine C5 1000 ?_;dsimp only;refine awD (scT 0 9 (scq [18,20,23,24] .nil)) [0,0,0,0,0,0,0,0,0,0,0,0,0] ?_;simp only [F59,seval,yx1];repeat refine ob ?_
     refine C5 0 ?_;dsimp only;refine awN ?_;simp only [F59,seval];repeat refine ob ?_
     refine ⟨_,aI [2,3,4,5,6,17,18] [2,3,11,1063,2063,3063],e.claims.length-(k0+1),by omega,k0+1,(bgS e.agrs p k0 T),?a17_s1,?a17_s2,?a17_s3,?a17_nx,by omega,rfl,?i17_0,?i17_1,?i17_2,?i17_3,?st17⟩;case st17=>(simp only [F59,seval,bgS,T3.put,bgP,a7,bT,List.length_append,hfr,yhb,yx1];first|rfl|(simp [bgS,T3.put,bgP,a7,bT,List.length_append,List.length_cons,List.length_nil,hI0,hx,yhx,hfr,hb,yhb,x1,yx1,Nat.add_mul];done))
     case i17_0=>(first|exact hL0|(rw [←hL0];simp only [reduceIte,hI0,hx,yhx,hfr,hb,yhb,x1,yx1];done)|(rw [←hL0];simp [hI0,hx,yhx,hfr,hb,yhb,x1,yx1];done)|(simp [hI0,hx,yhx,hfr,hb,yhb,x1,yx1] at hL0;simpa using hL0)|(rw [←hL0];simp [*];done))
     all_goals (first|omega|assumption|(simp;omega)|(simp_all;done))
    have yx1:¬bgB p k0=1:=by omega
    by_cases x2:((bgB p k0:Nat):Int)=2
    ·have yx2:bgB p k0=2:=by omega
     refine C5 2000 ?_;dsimp only;refine awD (scT 0 9 (scq [18,20,23,24] .nil)) [0,0,0,0,0,0,0,0,0,0,0,0,0] ?_;simp only [F59,seval,yx2];repeat refine ob ?_
     refine C5 0 ?_;dsimp only;refine awN ?_;simp only [F59,seval];repeat refine ob ?_
     refine ⟨_,aI [2,3,4,5,6,17,18] [2,3,11,1063,2063,3063],e.claims.length-(k0+1),by omega,k0+1,(bgS e.agrs p k0 T),?a20_s1,?a20_s2,?a20_s3,?a20_nx,by omega,rfl,?i20_0,?i20_1,?i20_2,?i20_3,?st20⟩;case st20=>(simp only [F59,seval,bgS,T3.put,bgP,a7,bT,List.length_append,hfr,yhb,yx2];first|rfl|(simp [bgS,T3.put,bgP,a7,bT,List.length_append,List.length_cons,List.length_nil,hI0,hx,yhx,hfr,hb,yhb,x1,yx1,x2,yx2,Nat.add_mul];done))
     case i20_0=>(first|exact hL0|(rw [←hL0];simp only [reduceIte,hI0,hx,yhx,hfr,hb,yhb,x1,yx1,x2,yx2];done)|(rw [←hL0];simp [hI0,hx,yhx,hfr,hb,yhb,x1,yx1,x2,yx2];done)|(simp [hI0,hx,yhx,hfr,hb,yhb,x1,yx1,x2,yx2] at hL0;simpa using hL0)|(rw [←hL0];simp [*];done))
     all_goals (first|omega|assumption|(simp;omega)|(simp_all;done))
    have yx3:bgB p k0=3:=by unfold bgB at *;omega
    have xi3:((bgB p k0:Nat):Int)=3:=by omega
    refine C5 3000 ?_;dsimp only;refine awD (scT 0 9 (scq [18,20,23,24] .nil)) [0,0,0,0,0,0,0,0,0,0,0,0,0] ?_;simp only [F59,seval,yx3];repeat refine ob ?_
    refine C5 0 ?_;dsimp only;refine awN ?_;simp only [F59,seval];repeat refine ob ?_
    refine ⟨_,aI [2,3,4,5,6,17,18] [2,3,11,1063,2063,3063],e.claims.length-(k0+1),by omega,k0+1,(bgS e.agrs p k0 T),?a23_s1,?a23_s2,?a23_s3,?a23_nx,by omega,rfl,?i23_0,?i23_1,?i23_2,?i23_3,?st23⟩;case st23=>(simp only [F59,seval,bgS,T3.put,bgP,a7,bT,List.length_append,hfr,yhb,yx3];first|rfl|(simp [bgS,T3.put,bgP,a7,bT,List.length_append,List.length_cons,List.length_nil,hI0,hx,yhx,hfr,hb,yhb,x1,yx1,x2,yx3,xi3,Nat.add_mul];done))
    case i23_0=>(first|exact hL0|(rw [←hL0];simp only [reduceIte,hI0,hx,yhx,hfr,hb,yhb,x1,yx1,x2,yx3,xi3];done)|(rw [←hL0];simp [hI0,hx,yhx,hfr,hb,yhb,x1,yx1,x2,yx3,xi3];done)|(simp [hI0,hx,yhx,hfr,hb,yhb,x1,yx1,x2,yx3,xi3] at hL0;simpa using hL0)|(rw [←hL0];simp [*];done))
    all_goals (first|omega|assumption|(simp;omega)|(simp_all;done))
   have yhb:¬p.c/2^k0%2=1:=by omega
   have w4:=LM k0 (by omega);have w5:=Nz p.c k0 hp.2.2 (by omega);refine awN ?_;simp only [F59,seval,hb,w4,w5];repeat refine ob ?_
   refine awF ?_;refine awK ?_;simp only [F59,seval];by_cases x1:((bgB p k0:Nat):Int)=1
   ·have yx1:bgB p k0=1:=by omega
    refine C5 1000 ?_;dsimp only;refine awD (scT 0 9 (scq [18,20,23,24] .nil)) [0,0,0,0,0,0,0,0,0,0,0,0,0] ?_;simp only [F59,seval,yx1];repeat refine ob ?_
    refine C5 0 ?_;dsimp only;refine awN ?_;simp only [F59,seval];repeat refine ob ?_
    refine ⟨_,aI [2,3,4,5,6,17,18] [2,3,11,1063,2063,3063],e.claims.length-(k0+1),by omega,k0+1,(bgS e.agrs p k0 T),?a27_s1,?a27_s2,?a27_s3,?a27_nx,by omega,rfl,?i27_0,?i27_1,?i27_2,?i27_3,?st27⟩;case st27=>(simp only [F59,seval,bgS,T3.put,bgP,a7,bT,List.length_append,hfr,yhb,yx1];first|rfl|(simp [bgS,T3.put,bgP,a7,bT,List.length_append,List.length_cons,List.length_nil,hI0,hx,yhx,hfr,hb,yhb,x1,yx1,Nat.add_mul];done))
    case i27_0=>(first|exact hL0|(rw [←hL0];simp only [reduceIte,hI0,hx,yhx,hfr,hb,yhb,x1,yx1];done)|(rw [←hL0];simp [hI0,hx,yhx,hfr,hb,yhb,x1,yx1];done)|(simp [hI0,hx,yhx,hfr,hb,yhb,x1,yx1] at hL0;simpa using hL0)|(rw [←hL0];simp [*];done))
    all_goals (first|omega|assumption|(simp;omega)|(simp_all;done))
   have yx1:¬bgB p k0=1:=by omega
   by_cases x2:((bgB p k0:Nat):Int)=2
   ·have yx2:bgB p k0=2:=by omega
    refine C5 2000 ?_;dsimp only;refine awD (scT 0 9 (scq [18,20,23,24] .nil)) [0,0,0,0,0,0,0,0,0,0,0,0,0] ?_;simp only [F59,seval,yx2];repeat refine ob ?_
    refine C5 0 ?_;dsimp only;refine awN ?_;simp only [F59,seval];repeat refine ob ?_
    refine ⟨_,aI [2,3,4,5,6,17,18] [2,3,11,1063,2063,3063],e.claims.length-(k0+1),by omega,k0+1,(bgS e.agrs p k0 T),?a30_s1,?a30_s2,?a30_s3,?a30_nx,by omega,rfl,?i30_0,?i30_1,?i30_2,?i30_3,?st30⟩;case st30=>(simp only [F59,seval,bgS,T3.put,bgP,a7,bT,List.length_append,hfr,yhb,yx2];first|rfl|(simp [bgS,T3.put,bgP,a7,bT,List.length_append,List.length_cons,List.length_nil,hI0,hx,yhx,hfr,hb,yhb,x1,yx1,x2,yx2,Nat.add_mul];done))
    case i30_0=>(first|exact hL0|(rw [←hL0];simp only [reduceIte,hI0,hx,yhx,hfr,hb,yhb,x1,yx1,x2,yx2];done)|(rw [←hL0];simp [hI0,hx,yhx,hfr,hb,yhb,x1,yx1,x2,yx2];done)|(simp [hI0,hx,yhx,hfr,hb,yhb,x1,yx1,x2,yx2] at hL0;simpa using hL0)|(rw [←hL0];simp [*];done))
    all_goals (first|omega|assumption|(simp;omega)|(simp_all;done))
   have yx3:bgB p k0=3:=by unfold bgB at *;omega
   have xi3:((bgB p k0:Nat):Int)=3:=by omega
   refine C5 3000 ?_;dsimp only;refine awD (scT 0 9 (scq [18,20,23,24] .nil)) [0,0,0,0,0,0,0,0,0,0,0,0,0] ?_;simp only [F59,seval,yx3];repeat refine ob ?_
   refine C5 0 ?_;dsimp only;refine awN ?_;simp only [F59,seval];repeat refine ob ?_
   refine ⟨_,aI [2,3,4,5,6,17,18] [2,3,11,1063,2063,3063],e.claims.length-(k0+1),by omega,k0+1,(bgS e.agrs p k0 T),?a33_s1,?a33_s2,?a33_s3,?a33_nx,by omega,rfl,?i33_0,?i33_1,?i33_2,?i33_3,?st33⟩;case st33=>(simp only [F59,seval,bgS,T3.put,bgP,a7,bT,List.length_append,hfr,yhb,yx3];first|rfl|(simp [bgS,T3.put,bgP,a7,bT,List.length_append,List.length_cons,List.length_nil,hI0,hx,yhx,hfr,hb,yhb,x1,yx1,x2,yx3,xi3,Nat.add_mul];done))
   case i33_0=>(first|exact hL0|(rw [←hL0];simp only [reduceIte,hI0,hx,yhx,hfr,hb,yhb,x1,yx1,x2,yx3,xi3];done)|(rw [←hL0];simp [hI0,hx,yhx,hfr,hb,yhb,x1,yx1,x2,yx3,xi3];done)|(simp [hI0,hx,yhx,hfr,hb,yhb,x1,yx1,x2,yx3,xi3] at hL0;simpa using hL0)|(rw [←hL0];simp [*];done))
   all_goals (first|omega|assumption|(simp;omega)|(simp_all;done))
  refine awR [] [0,0,0,60,60,60,60,0] ?_;simp only [F59,seval,hx,ab ao,ab au];refine ⟨_,(Mo e k0 hn he),rfl,?_⟩;try simp only [ak,F59,seval,hfr]
  refine awT ?_;refine awQ ?_;simp only [F59,seval];refine awN ?_;simp only [F59,seval];repeat refine ob ?_
  refine ⟨_,aI [2,3,4,5,6,17,18] [2,3,11,1063,2063,3063],e.claims.length-(k0+1),by omega,k0+1,(bgS e.agrs p k0 T),?a36_s1,?a36_s2,?a36_s3,?a36_nx,by omega,rfl,?i36_0,?i36_1,?i36_2,?i36_3,?st36⟩;case st36=>(simp only [F59,seval,bgS,yhx,hfr];first|rfl|(simp [bgS,T3.put,bgP,a7,bT,List.length_append,List.length_cons,List.length_nil,hI0,hx,yhx,hfr,Nat.add_mul];done))
  case i36_0=>(first|exact hL0|(rw [←hL0];simp only [reduceIte,hI0,hx,yhx,hfr];done)|(rw [←hL0];simp [hI0,hx,yhx,hfr];done)|(simp [hI0,hx,yhx,hfr] at hL0;simpa using hL0)|(rw [←hL0];simp [*];done))
  all_goals (first|omega|assumption|(simp;omega)|(simp_all;done))
 obtain rfl:k0=e.claims.length:=by omega
 have hI0:¬(e.claims.length:Int)<(e.claims.length:Int):=by omega
 rw [List.drop_length] at hL0;simp only [bgL] at hL0;refine awN ?_;simp only [F59,seval,aJ,cN3,hI0];refine awF ?_;refine awQ ?_;simp only [F59,seval];by_cases hr:((p.a/8%4:Nat):Int)=0
 ·have yhr:p.a/8%4=0:=by omega
  have w8:IntKind.u16.wrap ((p.a:Int).tdiv 8)=((p.a/8:Nat):Int):=by have:=Kh (p.a/8) (by omega);rw [←this];norm_cast
  have w9:((p.a/8:Nat):Int).tmod 4=((p.a/8%4:Nat):Int):=by norm_cast
  refine awN ?_;simp only [F59,seval,yhr,w8,w9];refine awT ?_;have wa:IntKind.u16.wrap ((p.a:Int).tdiv 32)=((p.a/32:Nat):Int):=by have:=Kh (p.a/32) (by omega);rw [←this];norm_cast
  have wb:((p.a/32:Nat):Int).tmod 3=((p.a/32%3:Nat):Int):=by norm_cast
  refine awN ?_;simp only [F59,seval,wa,wb];repeat refine ob ?_
  by_cases z0:((p.a/32%3:Nat):Int)=0
  ·have yz0:p.a/32%3=0:=by omega
   have wc:IntKind.u16.wrap ((p.a:Int).tdiv 96)=((p.a/96:Nat):Int):=by have:=Kh (p.a/96) (by omega);rw [←this];norm_cast
   have wd:((p.a/96:Nat):Int).tmod 7=((p.a/96%7:Nat):Int):=by norm_cast
   refine awD (scT 0 11 (scq [22,25,26,28,31,32] .nil)) [0,0,0,0,0,0,0,0,0,0,0,0,0,0,0,0,0] ?_;simp only [F59,seval,yz0,wc,wd];repeat refine ob ?_
   refine ⟨_,(Ki ((p.a/96%7:Nat):Int) (by omega) (by omega)),rfl,?_⟩;try simp only [ak,F59,seval,ai]
   repeat refine ob ?_
   refine dp 90 11 0 (by rfl) (by rfl) (by rfl) (by decide) (by show (5:Nat)≠0;decide) (by show (1:Nat)≠0;decide) rfl ?_;refine dp 2063 11 1 (by rfl) (by rfl) (by rfl) (by decide) (by show (5:Nat)≠0;decide) (by show (1:Nat)≠0;decide) rfl ?_;refine dp 3063 11 2 (by rfl) (by rfl) (by rfl) (by decide) (by show (5:Nat)≠0;decide) (by show (1:Nat)≠0;decide) rfl ?_;refine gT (t:=5) (by rfl) (by rfl) (by decide) (by rfl) ?_;simp only [F59,seval];refine awN ?_;simp only [F59,seval];repeat refine ob ?_
   refine awX ?_;simp only [F59,seval];simp [bgN,←hL0,bgT,T3.put,bu,fQ,cf,ve,bD,bT,nJ,al,ax,ab au,ab d9,yhr,yz0]
  have yz0:¬p.a/32%3=0:=by omega
  by_cases z1:((p.a/32%3:Nat):Int)=1
  ·have yz1:p.a/32%3=1:=by omega
   have wc:IntKind.u16.wrap ((p.a:Int).tdiv 96)=((p.a/96:Nat):Int):=by have:=Kh (p.a/96) (by omega);rw [←this];norm_cast
   have wd:((p.a/96:Nat):Int).tmod 7=((p.a/96%7:Nat):Int):=by norm_cast
   refine awD (scT 0 11 (scq [22,25,26,28,31,32] .nil)) [0,0,0,0,0,0,0,0,0,0,0,0,0,0,0,0,0] ?_;simp only [F59,seval,yz1,wc,wd];repeat refine ob ?_
   refine ⟨_,(Ki ((p.a/96%7:Nat):Int) (by omega) (by omega)),rfl,?_⟩;try simp only [ak,F59,seval,ai]
   repeat refine ob ?_
   refine dp 1063 11 0 (by rfl) (by rfl) (by rfl) (by decide) (by show (5:Nat)≠0;decide) (by show (1:Nat)≠0;decide) rfl ?_;refine dp 90 11 1 (by rfl) (by rfl) (by rfl) (by decide) (by show (5:Nat)≠0;decide) (by show (1:Nat)≠0;decide) rfl ?_;refine dp 3063 11 2 (by rfl) (by rfl) (by rfl) (by decide) (by show (5:Nat)≠0;decide) (by show (1:Nat)≠0;decide) rfl ?_;refine gT (t:=5) (by rfl) (by rfl) (by decide) (by rfl) ?_;simp only [F59,seval];refine awN ?_;simp only [F59,seval];repeat refine ob ?_
   refine awX ?_;simp only [F59,seval];simp [bgN,←hL0,bgT,T3.put,bu,fQ,cf,ve,bD,bT,nJ,al,ax,ab au,ab d9,yhr,yz1]
  have yz2:p.a/32%3=2:=by omega
  have zi2:((p.a/32%3:Nat):Int)=2:=by omega
  have wc:IntKind.u16.wrap ((p.a:Int).tdiv 96)=((p.a/96:Nat):Int):=by have:=Kh (p.a/96) (by omega);rw [←this];norm_cast
  have wd:((p.a/96:Nat):Int).tmod 7=((p.a/96%7:Nat):Int):=by norm_cast
  refine awD (scT 0 11 (scq [22,25,26,28,31,32] .nil)) [0,0,0,0,0,0,0,0,0,0,0,0,0,0,0,0,0] ?_;simp only [F59,seval,yz2,wc,wd];repeat refine ob ?_
  refine ⟨_,(Ki ((p.a/96%7:Nat):Int) (by omega) (by omega)),rfl,?_⟩;try simp only [ak,F59,seval,ai]
  repeat refine ob ?_
  refine dp 1063 11 0 (by rfl) (by rfl) (by rfl) (by decide) (by show (5:Nat)≠0;decide) (by show (1:Nat)≠0;decide) rfl ?_;refine dp 2063 11 1 (by rfl) (by rfl) (by rfl) (by decide) (by show (5:Nat)≠0;decide) (by show (1:Nat)≠0;decide) rfl ?_;refine dp 90 11 2 (by rfl) (by rfl) (by rfl) (by decide) (by show (5:Nat)≠0;decide) (by show (1:Nat)≠0;decide) rfl ?_;refine gT (t:=5) (by rfl) (by rfl) (by decide) (by rfl) ?_;simp only [F59,seval];refine awN ?_;simp only [F59,seval];repeat refine ob ?_
  refine awX ?_;simp only [F59,seval];simp [bgN,←hL0,bgT,T3.put,bu,fQ,cf,ve,bD,bT,nJ,al,ax,ab au,ab d9,yhr,yz2]
 have yhr:¬p.a/8%4=0:=by omega
 have w8:IntKind.u16.wrap ((p.a:Int).tdiv 8)=((p.a/8:Nat):Int):=by have:=Kh (p.a/8) (by omega);rw [←this];norm_cast
 have w9:((p.a/8:Nat):Int).tmod 4=((p.a/8%4:Nat):Int):=by norm_cast
 refine awN ?_;simp only [F59,seval,hr,w8,w9];refine awF ?_;refine awK ?_;simp only [F59,seval];refine dp 1063 11 0 (by rfl) (by rfl) (by rfl) (by decide) (by show (5:Nat)≠0;decide) (by show (1:Nat)≠0;decide) rfl ?_;refine dp 2063 11 1 (by rfl) (by rfl) (by rfl) (by decide) (by show (5:Nat)≠0;decide) (by show (1:Nat)≠0;decide) rfl ?_;refine dp 3063 11 2 (by rfl) (by rfl) (by rfl) (by decide) (by show (5:Nat)≠0;decide) (by show (1:Nat)≠0;decide) rfl ?_;refine gT (t:=5) (by rfl) (by rfl) (by decide) (by rfl) ?_;simp only [F59,seval];refine awN ?_;simp only [F59,seval];repeat refine ob ?_
 refine awX ?_;simp only [F59,seval];simp [bgN,←hL0,bgT,bu,cf,ve,bD,nJ,al,ax,ab au,ab d9,yhr]
theorem dP {α:Type} {f:α->List C} {sz:Nat} (hf:∀a,(f a).length=sz) (l:List α) (k:Nat) (x:α) (h:k<l.length):spl (aA f l) (k*sz) (f x)=aA f (l.set k x):=by
 have h1:aA f l=aA f (l.take k)++(f l[k]++aA f (l.drop (k+1))):=by
  conv=>lhs;rw [←List.take_append_drop k l,fQ,List.drop_eq_getElem_cons h,cf]
 have h2:aA f (l.set k x)=aA f (l.take k)++(f x++aA f (l.drop (k+1))):=by
  have hk:k<(l.set k x).length:=by simpa using h
  conv=>lhs;rw [←List.take_append_drop k (l.set k x),fQ,List.drop_eq_getElem_cons hk,cf]
  rw [List.getElem_set_self,List.drop_set];have:(l.set k x).take k=l.take k:=by rw [List.take_set];exact List.set_eq_of_length_le (by rw [List.length_take];omega)
  rw [this];simp
 have h3:(aA f (l.take k)).length=k*sz:=by rw [bo hf,List.length_take,Nat.min_eq_left (Nat.le_of_lt h)]
 rw [h1,h2,←h3];exact tt _ _ _ _ (by rw [hf,hf])
structure OS where
 k:Nat
 h:Int
 l:List Leg
def owS (debts:List GDebt) (p:N3) (i c:Nat) (y:GClaim) (s:OS):OS:=
 if tkD i c debts=true then s else if (4:Int)<=(s.l.length:Int) then s else
 if p.a/2^(s.k%16)%2=1 then (if (s.l.length:Int)=0 then ⟨s.k+1,y.holder,s.l++[((i:Int),(c:Int))]⟩ else if y.holder=s.h then ⟨s.k+1,y.holder,s.l++[((i:Int),(c:Int))]⟩ else ⟨s.k+1,s.h,s.l⟩) else ⟨s.k+1,s.h,s.l⟩
def owC (debts:List GDebt) (p:N3) (i:Nat):List GClaim->Nat->OS->OS
 |[],_,s=>s
 |y::l,c,s=>owC debts p i l (c+1) (owS debts p i c y s)
def owE (debts:List GDebt) (p:N3):List GEst->Nat->OS->OS
 |[],_,s=>s
 |e::l,i,s=>owE debts p l (i+1) (owC debts p i e.claims 0 s)
theorem Nt (debts:List GDebt) (p:N3) (i c:Nat) (y:GClaim) (s:OS):(owS debts p i c y s).k<=s.k+1/\(s.l.length<=4->(owS debts p i c y s).l.length<=4):=by
 unfold owS;split
 ·exact ⟨by omega,id⟩
 split
 ·exact ⟨by omega,id⟩
 repeat' split
 all_goals first|(simp;done)|(simp;omega)
def swp (l:List Leg) (i j:Nat):List Leg:=(l.set i (l.getD j (0,0))).set j (l.getD i (0,0))
def rvL (l:List Leg):Nat->List Leg
 |0=>l
 |m+1=>swp (rvL l m) m (l.length-1-m)
theorem ua (l:List Leg):∀m,(rvL l m).length=l.length
 |0=>rfl
 |m+1=>by simp [rvL,swp,ua l m]
noncomputable def owN (g:GGrp) (p:N3):GDebt:=⟨enc (kG p.c),if p.b%2=1 then rvL (owE g.debts p g.ests 0 ⟨0,0,[]⟩).l ((owE g.debts p g.ests 0 ⟨0,0,[]⟩).l.length/2) else (owE g.debts p g.ests 0 ⟨0,0,[]⟩).l⟩
def F60:=And.intro zS (And.intro Ey (And.intro Gc (And.intro Gd (And.intro Hr (And.intro Ep (And.intro ll (And.intro CF (And.intro Er (And.intro cD (And.intro Ge (And.intro tu (And.intro BK (And.intro AY (And.intro tv (And.intro Gj (And.intro mN (And.intro pq (And.intro Eu (And.intro nX (And.intro tw (And.intro tz (And.intro jz (And.intro CL (And.intro Hy (And.intro Gm (And.intro Gn (And.intro tf4 (And.intro I3 (And.intro I4 (And.intro I1 (And.intro AZ (CG))))))))))))))))))))))))))))))))
theorem F61:type_of%F60:=F60
theorem NU (g:GGrp) (p:N3) (hp:p.a<65536/\p.b<65536/\p.c<65536) (hge:g.ests.length<=1000) (hg:∀e∈g.ests,e.claims.length<=1000) (hn:g.debts.length<=1000000000000) (he:∀d∈g.debts,d.legs.length<=1000000000000):aR prog 49 [.agg (am g),.agg (cN3 p)] (.val (.one (.sh 4 (g.debts++[owN g p]).length (aA fu (g.debts++[owN g p]))))):=by
 refine aP func49 rfl (by decide) (N:=121) rfl (by simp) (R:=[.tmp 4]) rfl fun en k0=>?_
 refine awN ?_;simp only [F61,seval,am,cN3];refine awN ?_;simp only [F61,seval];refine ⟨_,(pl p.c hp.2.2),rfl,?_⟩;try simp only [ak,F61,seval,ai]
 refine awN ?_;simp only [F61,seval];refine awN ?_;simp only [F61,seval];refine awN ?_;simp only [F61,seval];refine lX 5 3 78 _ 44 2 (by decide) (by rfl) (by decide) (by simp) (by rfl) ?_;refine aQ [2,3,4,5,6,7,19,20,21] [2,3,5,78] ?_;try simp only [ak,F61,seval]
 repeat' first|apply awS|apply awB
 refine aM (fun n st=>∃i0 s s1 nx,i0<=g.ests.length/\n=g.ests.length-i0/\owE g.debts p (g.ests.drop i0) i0 s=owE g.debts p g.ests 0 ⟨0,0,[]⟩/\s.k<=i0*1000/\s.l.length<=4/\st=⟨mkT [(2,.val (.one (.ptr 2 0 0))),(3,.val (.one (.ptr 3 1 0))),(4,.val (.one (.lit (.slice none 0 0)))),(5,.val (.one (.ptr 5 2 0))),(6,one (.int .i64 s.k)),(7,one (.int .i64 s.h)),(19,.val (.one (.sh 5 g.ests.length (aA aJ g.ests)))),(20,one (.int .i64 g.ests.length)),(21,one (.int .i64 i0))],mkH [(2,⟨0,28,2,1,am g⟩),(3,⟨1,98,3,1,cN3 p⟩),(5,⟨2,42,4,1,[.lit (.bool (enc (kG p.c)).neg),.lit (.string (enc (kG p.c)).num),.lit (.string (enc (kG p.c)).den),.own 78 s1 (s.l).length 2]⟩),(78,⟨s1,44,2,(s.l).length,aA gp (s.l)⟩)],nx,0⟩) (g.ests.length) ⟨0,⟨0,0,[]⟩,_,_,by omega,by omega,by rfl,(by first|omega|assumption|rfl|simp|(simp;omega)),(by first|omega|assumption|rfl|simp|(simp;omega)),rfl⟩ ?_;rintro n0 st ⟨i0,s,s1,nx0,hk0,rfl,hL0,hV0_1,hV0_2,rfl⟩;by_cases hlt0:i0<g.ests.length
 ·have hI0:(i0:Int)<(g.ests.length:Int):=by omega
  have hat0:=aO i4 g.ests i0 hlt0;try rw [Nat.mul_one] at hat0
  rw [List.drop_eq_getElem_cons hlt0] at hL0;have hec:=hg _ (List.getElem_mem hlt0);generalize g.ests[i0]=e at *
  simp only [owE] at hL0;refine awN ?_;simp only [F61,seval,am,cN3,hI0];refine awT ?_;refine awK ?_;simp only [F61,seval];refine awN ?_;simp only [F61,seval];refine awN ?_;simp only [F61,seval,hI0,hat0,aJ];repeat refine ob ?_
  refine aQ [2,3,4,5,6,7,8,19,20,21,29,30,31] [2,3,5,78] ?_;try simp only [ak,F61,seval,a7,List.length_append]
  repeat' first|apply awS|apply awB
  refine aM (fun n st=>∃c0 t s2 nx,c0<=e.claims.length/\n=e.claims.length-c0/\owC g.debts p i0 (e.claims.drop c0) c0 t=owC g.debts p i0 e.claims 0 s/\t.k<=i0*1000+c0/\t.l.length<=4/\st=⟨mkT [(2,.val (.one (.ptr 2 0 0))),(3,.val (.one (.ptr 3 1 0))),(4,.val (.one (.lit (.slice none 0 0)))),(5,.val (.one (.ptr 5 2 0))),(6,one (.int .i64 t.k)),(7,one (.int .i64 t.h)),(8,one (.int .i64 i0)),(19,.val (.one (.sh 5 g.ests.length (aA aJ g.ests)))),(20,one (.int .i64 g.ests.length)),(21,one (.int .i64 i0)),(29,.val (.one (.sh 5 e.claims.length (aA b0 e.claims)))),(30,one (.int .i64 e.claims.length)),(31,one (.int .i64 c0))],mkH [(2,⟨0,28,2,1,am g⟩),(3,⟨1,98,3,1,cN3 p⟩),(5,⟨2,42,4,1,[.lit (.bool (enc (kG p.c)).neg),.lit (.string (enc (kG p.c)).num),.lit (.string (enc (kG p.c)).den),.own 78 s2 (t.l).length 2]⟩),(78,⟨s2,44,2,(t.l).length,aA gp (t.l)⟩)],nx,0⟩) (e.claims.length) ⟨0,s,_,_,by omega,by omega,by rfl,(by first|omega|assumption|rfl|simp|(simp;omega)),(by first|omega|assumption|rfl|simp|(simp;omega)),rfl⟩ ?_;rintro n1 st ⟨c0,t,s2,nx1,hk1,rfl,hL1,hV1_1,hV1_2,rfl⟩;by_cases hlt1:c0<e.claims.length
  ·have hI1:(c0:Int)<(e.claims.length:Int):=by omega
   have hat1:=aO cK e.claims c0 hlt1;try rw [Nat.mul_one] at hat1
   rw [List.drop_eq_getElem_cons hlt1] at hL1;have aL:=Nt g.debts p i0 c0 e.claims[c0] t;generalize e.claims[c0]=y at *
   simp only [owC] at hL1;refine awN ?_;simp only [F61,seval,am,cN3,hI1];refine awT ?_;refine awK ?_;simp only [F61,seval];refine awN ?_;simp only [F61,seval,hI1,hat1,b0];repeat refine ob ?_
   by_cases ht:tkD (i0:Int) (c0:Int) g.debts=true
   ·refine awR [] [0,0,0,0,0,82,82,82,82,0] ?_;simp only [F61,seval,ab b5,ab aN];refine ⟨_,(Kg g i0 c0 hn he),rfl,?_⟩;try simp only [ak,F61,seval,ht]
    refine awT ?_;refine awQ ?_;simp only [F61,seval];refine awN ?_;simp only [F61,seval];repeat refine ob ?_
    refine ⟨_,aI [2,3,4,5,6,7,8,19,20,21,29,30,31] [2,3,5,78],e.claims.length-(c0+1),by omega,c0+1,(owS g.debts p i0 c0 y t),?a12_s2,?a12_nx,by omega,rfl,?i12_0,?i12_1,?i12_2,?st12⟩;case st12=>(simp only [F61,seval,owS,ht];first|rfl|(simp [owS,a7,gp,List.length_append,List.length_cons,List.length_nil,hI0,hat0,aJ,hI1,hat1,ht,Nat.add_mul];done))
    case i12_0=>(first|exact hL1|(rw [←hL1];simp only [reduceIte,hI0,hat0,aJ,hI1,hat1,ht];done)|(rw [←hL1];simp [hI0,hat0,aJ,hI1,hat1,ht];done)|(simp [hI0,hat0,aJ,hI1,hat1,ht] at hL1;simpa using hL1)|(rw [←hL1];simp [*];done))
    all_goals (first|omega|assumption|(simp;omega)|(simp_all;done))
   by_cases h4:(4:Int)<=(t.l.length:Int)
   ·refine awR [] [0,0,0,0,0,82,82,82,82,0] ?_;simp only [F61,seval,ab b5,ab aN];refine ⟨_,(Kg g i0 c0 hn he),rfl,?_⟩;try simp only [ak,F61,seval,ht,h4]
    refine awT ?_;refine awQ ?_;simp only [F61,seval];refine awN ?_;simp only [F61,seval];repeat refine ob ?_
    refine ⟨_,aI [2,3,4,5,6,7,8,19,20,21,29,30,31] [2,3,5,78],e.claims.length-(c0+1),by omega,c0+1,(owS g.debts p i0 c0 y t),?a15_s2,?a15_nx,by omega,rfl,?i15_0,?i15_1,?i15_2,?st15⟩;case st15=>(simp only [F61,seval,owS,ht,h4];first|rfl|(simp [owS,a7,gp,List.length_append,List.length_cons,List.length_nil,hI0,hat0,aJ,hI1,hat1,ht,h4,Nat.add_mul];done))
    case i15_0=>(first|exact hL1|(rw [←hL1];simp only [reduceIte,hI0,hat0,aJ,hI1,hat1,ht,h4];done)|(rw [←hL1];simp [hI0,hat0,aJ,hI1,hat1,ht,h4];done)|(simp [hI0,hat0,aJ,hI1,hat1,ht,h4] at hL1;simpa using hL1)|(rw [←hL1];simp [*];done))
    all_goals (first|omega|assumption|(simp;omega)|(simp_all;done))
   refine awR [] [0,0,0,0,0,82,82,82,82,0] ?_;simp only [F61,seval,ab b5,ab aN];refine ⟨_,(Kg g i0 c0 hn he),rfl,?_⟩;try simp only [ak,F61,seval,ht,h4]
   refine awF ?_;refine awK ?_;simp only [F61,seval];have w3:((t.k:Nat):Int).tmod 16=((t.k%16:Nat):Int):=by norm_cast
   have w4:IntKind.u64.wrap ((t.k%16:Nat):Int)=((t.k%16:Nat):Int):=LM (t.k%16) (by omega);have w5:=Nz p.a (t.k%16) hp.1 (by omega);refine awN ?_;simp only [F61,seval,w3,w4,w5];repeat refine ob ?_
   refine awN ?_;simp only [F61,seval];repeat refine ob ?_
   by_cases hb:((p.a/2^(t.k%16)%2:Nat):Int)=1
   ·have yhb:p.a/2^(t.k%16)%2=1:=by omega
    by_cases hz:(t.l.length:Int)=0
    ·refine awR [] [0,0,119,119,119,119,119,128,128,128,128,119,0] ?_;simp only [F61,seval,yhb,hz];refine awT ?_;refine awN ?_;simp only [F61,seval];refine awN ?_;simp only [F61,seval];repeat refine ob ?_
     refine awN ?_;simp only [F61,seval];repeat refine ob ?_
     refine ⟨_,aI [2,3,4,5,6,7,8,19,20,21,29,30,31] [2,3,5,78],e.claims.length-(c0+1),by omega,c0+1,(owS g.debts p i0 c0 y t),?a23_s2,?a23_nx,by omega,rfl,?i23_0,?i23_1,?i23_2,?st23⟩;case st23=>(simp only [F61,seval,owS,a7,gp,List.length_append,ht,yhb,hz];first|rfl|(simp [owS,a7,gp,List.length_append,List.length_cons,List.length_nil,hI0,hat0,aJ,hI1,hat1,ht,h4,hb,yhb,hz,Nat.add_mul];done))
     case i23_0=>(first|exact hL1|(rw [←hL1];simp only [reduceIte,hI0,hat0,aJ,hI1,hat1,ht,h4,hb,yhb,hz];done)|(rw [←hL1];simp [hI0,hat0,aJ,hI1,hat1,ht,h4,hb,yhb,hz];done)|(simp [hI0,hat0,aJ,hI1,hat1,ht,h4,hb,yhb,hz] at hL1;simpa using hL1)|(rw [←hL1];simp [*];done))
     all_goals (first|omega|assumption|(simp;omega)|(simp_all;done))
    by_cases hh:y.holder=t.h
    ·refine awR [] [0,0,119,119,119,119,119,128,128,128,128,119,0] ?_;simp only [F61,seval,yhb,hz,hh];refine awT ?_;refine awN ?_;simp only [F61,seval];refine awN ?_;simp only [F61,seval];repeat refine ob ?_
     refine awN ?_;simp only [F61,seval];repeat refine ob ?_
     refine ⟨_,aI [2,3,4,5,6,7,8,19,20,21,29,30,31] [2,3,5,78],e.claims.length-(c0+1),by omega,c0+1,(owS g.debts p i0 c0 y t),?a28_s2,?a28_nx,by omega,rfl,?i28_0,?i28_1,?i28_2,?st28⟩;case st28=>(simp only [F61,seval,owS,a7,gp,List.length_append,ht,h4,yhb,hz,hh];first|rfl|(simp [owS,a7,gp,List.length_append,List.length_cons,List.length_nil,hI0,hat0,aJ,hI1,hat1,ht,h4,hb,yhb,hz,hh,Nat.add_mul];done))
     case i28_0=>(first|exact hL1|(rw [←hL1];simp only [reduceIte,hI0,hat0,aJ,hI1,hat1,ht,h4,hb,yhb,hz,hh];done)|(rw [←hL1];simp [hI0,hat0,aJ,hI1,hat1,ht,h4,hb,yhb,hz,hh];done)|(simp [hI0,hat0,aJ,hI1,hat1,ht,h4,hb,yhb,hz,hh] at hL1;simpa using hL1)|(rw [←hL1];simp [*];done))
     all_goals (first|omega|assumption|(simp;omega)|(simp_all;done))
    refine awR [] [0,0,119,119,119,119,119,128,128,128,128,119,0] ?_;simp only [F61,seval,yhb,hz,hh];refine awF ?_;refine awK ?_;simp only [F61,seval];refine awN ?_;simp only [F61,seval];repeat refine ob ?_
    refine ⟨_,aI [2,3,4,5,6,7,8,19,20,21,29,30,31] [2,3,5,78],e.claims.length-(c0+1),by omega,c0+1,(owS g.debts p i0 c0 y t),?a31_s2,?a31_nx,by omega,rfl,?i31_0,?i31_1,?i31_2,?st31⟩;case st31=>(simp only [F61,seval,owS,ht,h4,yhb,hz,hh];first|rfl|(simp [owS,a7,gp,List.length_append,List.length_cons,List.length_nil,hI0,hat0,aJ,hI1,hat1,ht,h4,hb,yhb,hz,hh,Nat.add_mul];done))
    case i31_0=>(first|exact hL1|(rw [←hL1];simp only [reduceIte,hI0,hat0,aJ,hI1,hat1,ht,h4,hb,yhb,hz,hh];done)|(rw [←hL1];simp [hI0,hat0,aJ,hI1,hat1,ht,h4,hb,yhb,hz,hh];done)|(simp [hI0,hat0,aJ,hI1,hat1,ht,h4,hb,yhb,hz,hh] at hL1;simpa using hL1)|(rw [←hL1];simp [*];done))
    all_goals (first|omega|assumption|(simp;omega)|(simp_all;done))
   have yhb:¬p.a/2^(t.k%16)%2=1:=by omega
   refine awR [] [0,0,119,119,119,119,119,128,128,128,128,119,0] ?_;simp only [F61,seval,hb];refine awF ?_;refine awK ?_;simp only [F61,seval];refine awN ?_;simp only [F61,seval];repeat refine ob ?_
   refine ⟨_,aI [2,3,4,5,6,7,8,19,20,21,29,30,31] [2,3,5,78],e.claims.length-(c0+1),by omega,c0+1,(owS g.debts p i0 c0 y t),?a34_s2,?a34_nx,by omega,rfl,?i34_0,?i34_1,?i34_2,?st34⟩;case st34=>(simp only [F61,seval,owS,ht,h4,yhb];first|rfl|(simp [owS,a7,gp,List.length_append,List.length_cons,List.length_nil,hI0,hat0,aJ,hI1,hat1,ht,h4,hb,yhb,Nat.add_mul];done))
   case i34_0=>(first|exact hL1|(rw [←hL1];simp only [reduceIte,hI0,hat0,aJ,hI1,hat1,ht,h4,hb,yhb];done)|(rw [←hL1];simp [hI0,hat0,aJ,hI1,hat1,ht,h4,hb,yhb];done)|(simp [hI0,hat0,aJ,hI1,hat1,ht,h4,hb,yhb] at hL1;simpa using hL1)|(rw [←hL1];simp [*];done))
   all_goals (first|omega|assumption|(simp;omega)|(simp_all;done))
  obtain rfl:c0=e.claims.length:=by omega
  have hI1:¬(e.claims.length:Int)<(e.claims.length:Int):=by omega
  rw [List.drop_length] at hL1;simp only [owC] at hL1;refine awN ?_;simp only [F61,seval,am,cN3,hI1];refine awF ?_;refine awQ ?_;simp only [F61,seval];refine awN ?_;simp only [F61,seval];repeat refine ob ?_
  refine ⟨_,aI [2,3,4,5,6,7,19,20,21] [2,3,5,78],g.ests.length-(i0+1),by omega,i0+1,?a37_s,?a37_s1,?a37_nx,by omega,rfl,?i37_0,?i37_1,?i37_2,?st37⟩;case st37=>(simp only [F61,seval];first|rfl|(simp [hI0,hat0,aJ,hI1,Nat.add_mul];done))
  case i37_0=>(rw [←hL0,←hL1])
  all_goals (first|omega|assumption|(simp;omega)|(simp_all;done))
 obtain rfl:i0=g.ests.length:=by omega
 have hI0:¬(g.ests.length:Int)<(g.ests.length:Int):=by omega
 rw [List.drop_length] at hL0;simp only [owE] at hL0;refine awN ?_;simp only [F61,seval,am,cN3,hI0];refine awF ?_;refine awQ ?_;simp only [F61,seval];by_cases hr:((p.b%2:Nat):Int)=1
 ·have yhr:p.b%2=1:=by omega
  have w6:((p.b:Nat):Int).tmod 2=((p.b%2:Nat):Int):=by norm_cast
  refine awN ?_;simp only [F61,seval,yhr,w6];refine awT ?_;refine awD (scT 0 6 .nil) [0,0,0,0,0,0] ?_;simp only [F61,seval];repeat refine ob ?_
  generalize hLg:s.l=L at *
  have e0:(L.length:Int)-1=(L.length:Int)-1-((0:Nat):Int):=by omega
  rw [e0];refine aQ [2,3,4,5,12,13] [2,3,5,78] ?_;try simp only [ak,F61,seval]
  repeat' first|apply awS|apply awB
  refine aM (fun n st=>∃m s1 nx,m<=L.length/2/\n=L.length-m/\st=⟨mkT [(2,.val (.one (.ptr 2 0 0))),(3,.val (.one (.ptr 3 1 0))),(4,.val (.one (.lit (.slice none 0 0)))),(5,.val (.one (.ptr 5 2 0))),(12,one (.int .i64 m)),(13,one (.int .i64 ((L.length:Int)-1-m)))],mkH [(2,⟨0,28,2,1,am g⟩),(3,⟨1,98,3,1,cN3 p⟩),(5,⟨2,42,4,1,[.lit (.bool (enc (kG p.c)).neg),.lit (.string (enc (kG p.c)).num),.lit (.string (enc (kG p.c)).den),.own 78 s1 (rvL L m).length 2]⟩),(78,⟨s1,44,2,(rvL L m).length,aA gp (rvL L m)⟩)],nx,0⟩) (L.length) ⟨0,_,_,by omega,by omega,rfl⟩ ?_;rintro n2 st ⟨m,s1,nx2,hm,rfl,rfl⟩;by_cases hlt:(m:Int)<(L.length:Int)-1-m
  ·refine awN ?_;simp only [F61,seval,am,cN3,hlt];refine awT ?_;refine awK ?_;simp only [F61,seval];obtain ⟨j,hj⟩:∃j:Nat,(L.length:Int)-1-m=j:=⟨L.length-1-m,by omega⟩;have hjn:j=L.length-1-m:=by omega
   simp only [hj];have hm1:m<(rvL L m).length:=by rw [ua];omega
   have hj1:j<(rvL L m).length:=by rw [ua];omega
   have hln:=ua L m;have a1:=aO gt (rvL L m) m hm1;have a2:=aO gt (rvL L m) j hj1;have b1:=dP gt (rvL L m) m (rvL L m)[j] hm1;have b2:=dP gt ((rvL L m).set m (rvL L m)[j]) j (rvL L m)[m] (by simpa using hj1);simp only [gp] at a1 a2 b1 b2;have f1:=bo gt (rvL L m);have f2:=bo gt ((rvL L m).set m (rvL L m)[j]);rw [List.length_set] at f2;refine awD (scT 0 4 (scT 5 12 (.two 4 17 (scq [34,37,38] .nil) (scq [9,37,38] .nil)))) [0,0,0,0,0,0,0,0,0,0,0,0,0,0,0,0,0,0,0,0] ?_;simp only [F61,seval,a1,a2,b1,b2,f1,f2];repeat refine ob ?_
   refine ⟨?_,?_⟩
   ·repeat refine ob ?_
    refine awN ?_;simp only [F61,seval];repeat refine ob ?_
    have hr1:rvL L (m+1)=((rvL L m).set m (rvL L m)[j]).set j (rvL L m)[m]:=by simp [rvL,swp,←hjn,hm1,hj1]
    have e1:(j:Int)-1=(L.length:Int)-1-((m+1:Nat):Int):=by omega
    refine ⟨_,aI [2,3,4,5,12,13] [2,3,5,78],L.length-(m+1),by omega,m+1,s1,nx2,by omega,rfl,?_⟩;simp only [F61,seval,hr1,List.length_set,e1,Int.natCast_add];try rfl
   repeat refine ob ?_
   refine awN ?_;simp only [F61,seval];repeat refine ob ?_
   have hr1:rvL L (m+1)=((rvL L m).set m (rvL L m)[j]).set j (rvL L m)[m]:=by simp [rvL,swp,←hjn,hm1,hj1]
   have e1:(j:Int)-1=(L.length:Int)-1-((m+1:Nat):Int):=by omega
   refine ⟨_,aI [2,3,4,5,12,13] [2,3,5,78],L.length-(m+1),by omega,m+1,s1,nx2,by omega,rfl,?_⟩;simp only [F61,seval,hr1,List.length_set,e1,Int.natCast_add];try rfl
  refine awN ?_;simp only [F61,seval,am,cN3,hlt];refine awF ?_;refine awQ ?_;simp only [F61,seval];refine dp 78 5 3 (by rfl) (by rfl) (by rfl) (by decide) (by show (2:Nat)≠0;decide) (by show (4:Nat)≠0;decide) rfl ?_;simp only [F61,seval];refine awD (scq [1,3] (.two 2 3 (scq [7,8,10,13] .nil) (.two 2 4 (scq [8,10,13] .nil) (scq [4,10,13] .nil)))) [0,0,0,0,0,0,0] ?_;simp only [F61,seval];refine ⟨?_,?_⟩
  ·repeat refine ob ?_
   have hm2:m=L.length/2:=by omega
   subst hm2;refine awX ?_;simp only [F61,seval];simp [owN,←hL0,yhr,hLg,fu,fQ,cf,ve,ua,nJ,al,ax,ab aN,ab i5]
  refine ⟨?_,?_⟩
  ·repeat refine ob ?_
   have hm2:m=L.length/2:=by omega
   subst hm2;refine awX ?_;simp only [F61,seval];simp [owN,←hL0,yhr,hLg,fu,fQ,cf,ve,ua,nJ,al,ax,ab aN,ab i5]
  repeat refine ob ?_
  have hm2:m=L.length/2:=by omega
  subst hm2;refine awX ?_;simp only [F61,seval];simp [owN,←hL0,yhr,hLg,fu,fQ,cf,ve,ua,nJ,al,ax,ab aN,ab i5]
 have yhr:¬p.b%2=1:=by omega
 have w6:((p.b:Nat):Int).tmod 2=((p.b%2:Nat):Int):=by norm_cast
 refine awN ?_;simp only [F61,seval,hr,w6];refine awF ?_;refine awK ?_;simp only [F61,seval];refine dp 78 5 3 (by rfl) (by rfl) (by rfl) (by decide) (by show (2:Nat)≠0;decide) (by show (4:Nat)≠0;decide) rfl ?_;simp only [F61,seval];refine awD (scq [1,3] (.two 2 3 (scq [7,8,10,13] .nil) (.two 2 4 (scq [8,10,13] .nil) (scq [4,10,13] .nil)))) [0,0,0,0,0,0,0] ?_;simp only [F61,seval];refine ⟨?_,?_⟩
 ·repeat refine ob ?_
  refine awX ?_;simp only [F61,seval];simp [owN,←hL0,yhr,fu,fQ,cf,ve,nJ,al,ax,ab aN,ab i5]
 refine ⟨?_,?_⟩
 ·repeat refine ob ?_
  refine awX ?_;simp only [F61,seval];simp [owN,←hL0,yhr,fu,fQ,cf,ve,nJ,al,ax,ab aN,ab i5]
 repeat refine ob ?_
 refine awX ?_;simp only [F61,seval];simp [owN,←hL0,yhr,fu,fQ,cf,ve,nJ,al,ax,ab aN,ab i5]
section
variable {P : Program} {e : En} {k0 : Kx} {N : Nat} {st : St} {a : Act} {w : World} {Q : Exit → St → Prop} {c : Code}
theorem dz (nm:Nat) {B:Blk} (cs':List C) (hB:st.H nm=some B) (hsz:B.sz≠0) (hl:cs'.length=B.cs.length) (h:∀(κ:Kx) (vs:List Value),denVs κ vs B.cs->denVs κ vs cs'):
  Wk e k0 N st ⟨st.tm,up st.H nm (some {B with cs:=cs'}),st.nx,st.nb⟩:=by
 intro a w hr;obtain ⟨σ,h1,h2,h3⟩:=hr.ex;obtain ⟨g1,g2,xs,g3,g4⟩:=h1.rowOf hB (.inl hsz);obtain ⟨m1,m2⟩:=h1.upd (w':=w) hB ⟨rfl,rfl,rfl,Nat.le_refl _,fun _ _ _=>rfl⟩ (cs:=cs') hsz (by rw [hl];exact g2) g3 (h _ _ g4);exact ⟨⟨_,m1,fun t'=>dY m2 (h2 t'),h3.trans m2⟩,hr.df,hr.sz⟩
end
theorem m5 {κ:Kx} {v:Value} (sz:Nat) (h:den κ v (.lit (.slice none 0 0))):den κ v (.sh sz 0 []):=by
 simp only [den] at h ⊢;exact ⟨none,0,h.1,Nat.le_refl _,by unfold maxLen;omega,fun _=>rfl,by simp,.inl trivial⟩
theorem cv {κ:Kx} {vs:List Value} {c:C} {cs:List C} (h:denVs κ vs (c::cs)):∃v vs',vs=v::vs'/\den κ v c/\denVs κ vs' cs:=by
 cases vs with
 |nil=>exact h.elim
 |cons v vs=>exact ⟨v,vs,rfl,h.1,h.2⟩
theorem KJ:∀(ps:List (GEst×Nat)) (i:Nat),(∀p∈ps,p.1.agrs=[])->∀(κ:Kx) (vs:List Value),denVs κ vs (j3 fSh ps i)->denVs κ vs (aA aJ (ps.map (·.1)))
 |[],_,_,κ,vs,h=>h
 |p::ps,i,hp,κ,vs,h=>by
  have ha:=hp p (by simp);simp only [j3,List.cons_append,List.nil_append] at h;obtain ⟨v1,vs1,rfl,d1,h⟩:=cv h;obtain ⟨v2,vs2,rfl,d2,h⟩:=cv h;obtain ⟨v3,vs3,rfl,d3,h⟩:=cv h;obtain ⟨v4,vs4,rfl,d4,h⟩:=cv h;obtain ⟨v5,vs5,rfl,d5,h⟩:=cv h;have ih:=KJ ps (i+1) (fun q hq=>hp q (by simp [hq])) κ vs5 h;rw [List.map_cons,cf];simp only [aJ,ha];exact ⟨d1,d2,d3,d4,m5 1 d5,ih⟩
theorem Mq {l m:List (GEst×Nat)} (i:Nat) (h:l.map (·.1)=m.map (·.1)):j3 rd l i=j3 rd m i:=by
 induction l generalizing m i with
 |nil=>
  cases m with
  |nil=>rfl
  |cons q m=>simp at h
 |cons p l ih=>
  cases m with
  |nil=>simp at h
  |cons q m=>
   simp only [List.map_cons,List.cons.injEq] at h;simp only [j3,h.1,ih (i+1) h.2,rd]
theorem zl {α:Type} {f:α->List C} {sz:Nat} (hf:∀a,(f a).length=sz) (l:List α) (k o:Nat) (ds:List C) (x:α) (h:k<l.length) (ho:o+ds.length<=sz) (hx:spl (f l[k]) o ds=f x):spl (aA f l) (k*sz+o) ds=aA f (l.set k x):=by
 have h1:aA f l=aA f (l.take k)++(f l[k]++aA f (l.drop (k+1))):=by
  conv=>lhs;rw [←List.take_append_drop k l,fQ,List.drop_eq_getElem_cons h,cf]
 have h2:aA f (l.set k x)=aA f (l.take k)++(f x++aA f (l.drop (k+1))):=by
  have hk:k<(l.set k x).length:=by simpa using h
  conv=>lhs;rw [←List.take_append_drop k (l.set k x),fQ,List.drop_eq_getElem_cons hk,cf]
  rw [List.getElem_set_self,List.drop_set];have:(l.set k x).take k=l.take k:=by rw [List.take_set];exact List.set_eq_of_length_le (by rw [List.length_take];omega)
  rw [this];simp
 have h3:(aA f (l.take k)).length=k*sz:=by rw [bo hf,List.length_take,Nat.min_eq_left (Nat.le_of_lt h)]
 have hlen:=hf l[k];have e1:f l[k]=(f l[k]).take o++(((f l[k]).drop o).take ds.length++(f l[k]).drop (o+ds.length)):=by
  rw [←List.drop_drop,List.take_append_drop,List.take_append_drop]
 have e2:f x=(f l[k]).take o++(ds++(f l[k]).drop (o+ds.length)):=by
  rw [←hx];conv=>lhs;rw [e1]
  have:o=((f l[k]).take o).length:=by rw [List.length_take,hlen];omega
  conv=>lhs;arg 2;rw [this]
  exact tt _ _ _ _ (by rw [List.length_take,List.length_drop,hlen];omega)
 have e4:k*sz+o=(aA f (l.take k)++(f l[k]).take o).length:=by
  rw [List.length_append,h3,List.length_take,hlen];omega
 have e3:aA f l=(aA f (l.take k)++(f l[k]).take o)++(((f l[k]).drop o).take ds.length++((f l[k]).drop (o+ds.length)++aA f (l.drop (k+1)))):=by
  conv=>lhs;rw [h1,e1]
  simp only [List.append_assoc]
 rw [e3,e4,tt _ _ _ _ (by rw [List.length_take,List.length_drop,hlen];omega),h2,e2];simp only [List.append_assoc]
noncomputable def xD (size:Nat) (es:List GEst) (p:N3):List GEst:=
 if ((es.getD (p.a%size) gr).agrs.length:Int)<2 then es.set (p.a%size) {es.getD (p.a%size) gr with agrs:=(es.getD (p.a%size) gr).agrs++[bgN (es.getD (p.a%size) gr) p]} else es
noncomputable def s9 (es:List GEst) (ds:List GDebt) (d:N3):List GDebt:=if (ds.length:Int)<3 then ds++[owN ⟨es,ds⟩ d] else ds
noncomputable def JC (n:Nat) (cash:List Nat) (list:List N4) (pools:List N3):List GEst:=pools.foldl (xD (1+n%4)) (list.foldl (gn (1+n%4)) ((List.range (1+n%4)).map (kY cash)))
noncomputable def Kj (n:Nat) (cash:List Nat) (list:List N4) (pools debts:List N3):GGrp:=⟨JC n cash list pools,debts.foldl (s9 (JC n cash list pools)) []⟩
def okB (e:GEst):Prop:=e.claims.length<=6/\e.agrs.length<=2/\∀a∈e.agrs,a.length<=3/\∀t∈a,t.length<=7
theorem LN (T:T3) (x:Nat) (p:GPart) (n:Nat) (h:T.a.length<=n/\T.b.length<=n/\T.c.length<=n):(T.put x p).a.length<=n+1/\(T.put x p).b.length<=n+1/\(T.put x p).c.length<=n+1:=by
 unfold T3.put;obtain ⟨h1,h2,h3⟩:=h;repeat' split
 all_goals (simp only [List.length_append,List.length_cons,List.length_nil];omega)
theorem Lu (agrs:List bR) (p:N3):∀(l:List GClaim) (i:Nat) (T:T3) (n:Nat),(T.a.length<=n/\T.b.length<=n/\T.c.length<=n)->(bgL agrs p l i T).a.length<=n+l.length/\(bgL agrs p l i T).b.length<=n+l.length/\(bgL agrs p l i T).c.length<=n+l.length
 |[],_,_,_,h=>h
 |_::l,i,T,n,h=>by
  have h1:=Lt agrs p i T;have:=Lu agrs p l (i+1) (bgS agrs p i T) (n+1) (by omega);simp only [bgL,List.length_cons];omega
theorem NC (e:GEst) (p:N3) (h:e.claims.length<=6):(bgN e p).length<=3/\∀t∈bgN e p,t.length<=7:=by
 refine ⟨by simp [bgN],fun t ht=>?_⟩;have h1:=Lu e.agrs p e.claims 0 ⟨[],[],[]⟩ 0 (by simp);have h2:(bgT p (bgL e.agrs p e.claims 0 ⟨[],[],[]⟩)).a.length<=7/\(bgT p (bgL e.agrs p e.claims 0 ⟨[],[],[]⟩)).b.length<=7/\(bgT p (bgL e.agrs p e.claims 0 ⟨[],[],[]⟩)).c.length<=7:=by
  unfold bgT;split
  ·have:=LN (bgL e.agrs p e.claims 0 ⟨[],[],[]⟩) (p.a/32%3+1) ⟨-1,true,enc (((p.a/96%7:Nat):Int):Rat)⟩ 6 (by omega);exact this
  omega
 simp only [bgN,List.mem_cons,List.not_mem_nil,or_false] at ht;rcases ht with rfl|rfl|rfl
 ·exact h2.1
 ·exact h2.2.1
 exact h2.2.2
theorem ND:okB gr:=⟨by simp [gr],by simp [gr],by simp [gr]⟩
theorem JE {Pr:GEst->Prop} {es:List GEst} (h:∀e∈es,Pr e) (h0:Pr gr) (i:Nat):Pr (es.getD i gr):=by
 rw [List.getD_eq_getElem?_getD];cases hx:es[i]? with
 |none=>exact h0
 |some e=>exact h e (List.mem_of_getElem? hx)
theorem Kk {Pr:GEst->Prop} {es:List GEst} (h:∀e∈es,Pr e) (i:Nat) {x:GEst} (hx:Pr x):∀e∈es.set i x,Pr e:=fun e he=>by
 rcases List.mem_or_eq_of_mem_set he with h1|rfl
 ·exact h e h1
 exact hx
theorem JO (size:Nat) (es:List GEst) (p:N3) (h:∀e∈es,okB e):∀e∈xD size es p,okB e:=by
 unfold xD;split
 ·rename_i hlt;have h0:=JE h ND (p.a%size);generalize es.getD (p.a%size) gr=e at *
  refine Kk h _ ⟨h0.1,by simp only [List.length_append,List.length_cons,List.length_nil];omega,fun a ha=>?_⟩;rcases List.mem_append.1 ha with h1|h1
  ·exact h0.2.2 a h1
  obtain rfl:a=bgN e p:=by simpa using h1
  exact NC e p h0.1
 exact h
theorem xB (size:Nat) (es:List GEst) (p:N3):(xD size es p).length=es.length:=by unfold xD;split<;>simp
theorem JD (size:Nat) (es:List GEst) (x:N4):(gn size es x).length=es.length:=by unfold gn;split<;>simp
def okC (e:GEst):Prop:=e.claims.length<=6/\e.agrs=[]
theorem jY (size:Nat) (es:List GEst) (x:N4) (h:∀e∈es,okC e):∀e∈gn size es x,okC e:=by
 unfold gn;split
 ·exact h
 rename_i hlt;have h0:=JE h (show okC gr from ⟨by simp [gr],rfl⟩) (x.a%size);generalize es.getD (x.a%size) gr=e at *
 exact Kk h _ ⟨by simp only [List.length_append,List.length_cons,List.length_nil];omega,h0.2⟩
theorem Lv (debts:List GDebt) (p:N3) (i:Nat):∀(l:List GClaim) (c:Nat) (s:OS),s.l.length<=4->(owC debts p i l c s).l.length<=4
 |[],_,_,h=>h
 |y::l,c,s,h=>Lv debts p i l (c+1) _ ((Nt debts p i c y s).2 h)
theorem Lw (debts:List GDebt) (p:N3):∀(l:List GEst) (i:Nat) (s:OS),s.l.length<=4->(owE debts p l i s).l.length<=4
 |[],_,_,h=>h
 |e::l,i,s,h=>Lw debts p l (i+1) _ (Lv debts p i e.claims 0 s h)
theorem Lx (g:GGrp) (p:N3):(owN g p).legs.length<=4:=by
 have:=Lw g.debts p g.ests 0 ⟨0,0,[]⟩ (by simp);unfold owN;dsimp only;split
 ·rw [ua];exact this
 exact this
theorem KK (es:List GEst) (ds:List GDebt) (d:N3) (h:∀x∈ds,x.legs.length<=4) (hl:ds.length<=3):(∀x∈s9 es ds d,x.legs.length<=4)/\(s9 es ds d).length<=3:=by
 unfold s9;split
 ·refine ⟨fun x hx=>?_,by simp only [List.length_append,List.length_cons,List.length_nil];omega⟩;rcases List.mem_append.1 hx with h1|h1
  ·exact h x h1
  obtain rfl:x=owN ⟨es,ds⟩ d:=by simpa using h1
  exact Lx _ _
 exact ⟨h,hl⟩
def Kl (n:Nat):List C:=[.lit (.int .u16 n)]
theorem KL (n:Nat):(Kl n).length=1:=rfl
def cN4 (x:N4):List C:=[.lit (.int .u16 x.a),.lit (.int .u16 x.b),.lit (.int .u16 x.c),.lit (.int .u16 x.d)]
theorem Km (x:N4):(cN4 x).length=4:=rfl
theorem Kn (x:N3):(cN3 x).length=3:=rfl
theorem J7 (n:Nat):al (Kl n)=true:=rfl
theorem KM (x:N4):al (cN4 x)=true:=rfl
theorem KN (x:N3):al (cN3 x)=true:=rfl
end Go.Proofs.YtokmkopihhnggaaGreatDoor
