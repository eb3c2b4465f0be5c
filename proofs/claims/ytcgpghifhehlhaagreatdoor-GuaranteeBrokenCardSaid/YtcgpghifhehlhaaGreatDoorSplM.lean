/- Cells of a row put, read and said in other words; parts of a row of records. No program in sight. -/
import Derived.Test.YtcgpghifhehlhaaGreatDoorAbBM
import Derived.Test.YtcgpghifhehlhaaGreatDoorRw5M
set_option linter.unusedVariables false
set_option maxHeartbeats 4000000
set_option maxRecDepth 100000
set_option linter.unusedSimpArgs false
set_option linter.unusedSectionVars false
namespace Go.Proofs.YtcgpghifhehlhaaGreatDoor
open Go Go.RowKit Go.Proofs.Tryz

section
variable {e : En} {H : Hp} {nx : Nat} {σ : Nat → Value} {w : World}
theorem lT:∀b,(kx e H nx σ w).S b->(eP w).S b/\(eP w).w.heap[b]? =(kx e H nx σ w).w.heap[b]? :=fun b hb=>⟨kO hb.2.1,rfl⟩
theorem go (hW:RW e H nx σ w) {v:Value} {nm s n sz:Nat} {B:Blk} (hd:den (kx e H nx σ w) v (.own nm s n sz)) (hB:H nm=some B) (hs:B.st=s) (hsz:B.sz≠0) {cs':List C}
  (hc:∀xs,denVs (kx e H nx σ w) xs B.cs->denVs (eP w) xs cs'):den (eP w) v (.sh sz n cs'):=vF hW hB hsz hs hd hc
end
theorem onR {H:Hp} {f:Hp} (hn:∀x B,H x=some B->x<500∨x%1000=103) (hf:∀x,(x<500∨x%1000=103)->f x=H x) (l:List Nat):∀x B,H x=some B->fI l x=true∨f x=some B:=fun x B hB=> .inr (by rw [hf x (hn x B hB)];exact hB)
theorem pO (f:Nat->GEst×Nat->C) (l:List (GEst×Nat)) (j:Nat) (p p':GEst×Nat) (h:l[j]? =some p) (hc:p'.1.cash=p.1.cash) (ha:p'.1.agrs=p.1.agrs) (hf:f j p'=f j p):eRw f (l.set j p') 0=eRw f l 0:=by
 have h1:=pA f f l j p p' h hc ha (fun _ _ _ _=>rfl);rw [hf] at h1;obtain ⟨h4,h5⟩:=List.getElem?_eq_some_iff.1 (pz f l j p h);rw [←h1,←h5];exact List.set_getElem_self h4
theorem sn (e:GEst) (p:N3) (H:Hp) (ny b9 sc:Nat) (hn:∀x B,H x=some B->x<500∨x%1000=103) (hH:H b9=some ⟨sc,38,5,e.claims.length,ar aA e.claims⟩) (h9:b9%1000=103) (hp:p.a<65536/\p.b<65536/\p.c<65536) (hc:e.claims.length<=30) (hna:e.agrs.length<=1000000000000) (he:∀a∈e.agrs,a.length<=1000000000000/\∀t∈a,t.length<=1000000000000):
  dk prog 29 [.agg [.lit (.bool e.cash.neg),.lit (.string e.cash.num),.lit (.string e.cash.den),.own b9 sc e.claims.length 5,.sh 1 e.agrs.length (ar aU e.agrs)],.agg (cN3 p)] H ny (fun res H' _=>res= .val (.one (.sh 1 (e.agrs++[bgN e p]).length (ar aU (e.agrs++[bgN e p]))))/\H'=H):=by
 have F9:∀c,c%1000≠103->((b9=c)=False):=fun c hc=>by simp;omega
 refine fm 500 func29 rfl (by decide) (N:=99) rfl (by simp) (Rl:=[.tmp 4]) rfl fun en k0=>?_
 refine awN ?_;simp only [F5,zT,seval,cN3];repeat refine ob ?_
 refine awN ?_;simp only [F5,zT,seval];repeat refine ob ?_
 refine awN ?_;simp only [F5,zT,seval];repeat refine ob ?_
 refine awN ?_;simp only [F5,zT,seval,F9,hH];repeat refine ob ?_
 refine dE 511 0 1063 _ 46 5 (by decide) (by rfl) (by decide) (by simp) (by rfl) ?_;refine dE 511 1 2063 _ 46 5 (by decide) (by rfl) (by decide) (by simp) (by rfl) ?_;refine dE 511 2 3063 _ 46 5 (by decide) (by rfl) (by decide) (by simp) (by rfl) ?_;refine aE H [2,3,4,5,6,17,18] [502,503,511,1063,2063,3063] (onR hn (fun x h=>by (try simp only [aj]);repeat rw [if_neg (by omega)]) _) ?_;try simp only [aq,F5,zT,seval,ay,List.length_append]
 repeat' first|apply awS|apply awB
 refine aB (fun n st=>∃k0 T s1 s2 s3 nx,k0<=e.claims.length/\n=e.claims.length-k0/\bgL e.agrs p (e.claims.drop k0) k0 T=bgL e.agrs p e.claims 0 ⟨[],[],[]⟩/\T.a.length<=k0/\T.b.length<=k0/\T.c.length<=k0/\st=⟨mkT [(2,.val (.one (.ptr 502 ny 0))),(3,.val (.one (.ptr 503 (ny+1) 0))),(4,.val (.one (.lit (.slice none 0 0)))),(5,.val (.one (.own 511 (ny+2) 3 1))),(6,one (.int .i64 p.b)),(17,one (.int .i64 e.claims.length)),(18,one (.int .i64 k0))],bW H [(502,⟨ny,36,5,1,[.lit (.bool e.cash.neg),.lit (.string e.cash.num),.lit (.string e.cash.den),.own b9 sc e.claims.length 5,.sh 1 e.agrs.length (ar aU e.agrs)]⟩),(503,⟨ny+1,93,3,1,cN3 p⟩),(511,⟨ny+2,47,1,3,[.own 1063 s1 T.a.length 5,.own 2063 s2 T.b.length 5,.own 3063 s3 T.c.length 5]⟩),(1063,⟨s1,46,5,T.a.length,ar aT T.a⟩),(2063,⟨s2,46,5,T.b.length,ar aT T.b⟩),(3063,⟨s3,46,5,T.c.length,ar aT T.c⟩)],nx,500⟩) (e.claims.length) ⟨0,⟨[],[],[]⟩,_,_,_,_,by omega,by omega,by rfl,(by first|omega|assumption|rfl|simp|(simp;omega)),(by first|omega|assumption|rfl|simp|(simp;omega)),(by first|omega|assumption|rfl|simp|(simp;omega)),rfl⟩ ?_;rintro n0 st ⟨k0,T,s1,s2,s3,nx0,hk0,rfl,hL0,hV0_1,hV0_2,hV0_3,rfl⟩;by_cases hlt0:k0<e.claims.length
 ·have hI0:(k0:Int)<(e.claims.length:Int):=by omega
  rw [List.drop_eq_getElem_cons hlt0] at hL0;have aL:=nR e.agrs p k0 T;simp only [bgL] at hL0;refine awN ?_;simp only [F5,zT,seval,cN3,hI0];repeat refine ob ?_
  refine awT ?_;refine awK ?_;simp only [F5,zT,seval];refine awN ?_;simp only [F5,zT,seval];repeat refine ob ?_
  have w2:IntKind.u64.wrap (2*(k0:Int))=((2*k0:Nat):Int):=by have:=qS (2*k0) (by omega);rw [←this];norm_cast
  have w3:=zL p.b (2*k0) hp.2.1 (by omega);rw [pv] at w3;change _=((bgB p k0:Nat):Int) at w3;refine awN ?_;simp only [F5,zT,seval,w2,w3];repeat refine ob ?_
  by_cases hx:((bgB p k0:Nat):Int)=0
  ·have yhx:bgB p k0=0:=by omega
   refine awR [] [0,0,0,60,60,60,60,0] ?_;simp only [F5,zT,seval,yhx];repeat refine ob ?_
   refine awT ?_;refine awQ ?_;simp only [F5,zT,seval];refine awN ?_;simp only [F5,zT,seval];repeat refine ob ?_
   repeat refine ob ?_
   refine ⟨_,bE H [2,3,4,5,6,17,18] [502,503,511,1063,2063,3063] (onR hn (fun x h=>by (try simp only [aj]);repeat rw [if_neg (by omega)]) _),e.claims.length-(k0+1),by omega,k0+1,(bgS e.agrs p k0 T),?a9_s1,?a9_s2,?a9_s3,?a9_nx,by omega,rfl,?i9_0,?i9_1,?i9_2,?i9_3,?st9⟩;case st9=>(simp only [F5,zT,seval,bgS,yhx];first|rfl|(simp [bgS,T3.put,bgP,ay,aT,List.length_append,List.length_cons,List.length_nil,hI0,hx,yhx,Nat.add_mul];done))
   case i9_0=>(first|exact hL0|(rw [←hL0];simp only [reduceIte,hI0,hx,yhx];done)|(rw [←hL0];simp [hI0,hx,yhx];done)|(simp [hI0,hx,yhx] at hL0;simpa using hL0)|(rw [←hL0];simp [*];done))
   all_goals (first|omega|assumption|(simp;omega)|(simp_all;done))
  have yhx:¬bgB p k0=0:=by omega
  by_cases hfr:frA k0 e.agrs=true
  ·refine awR [] [0,0,0,60,60,60,60,0] ?_;simp only [F5,zT,seval,F9,hx,hH,ab bA,ab bg];repeat refine ob ?_
   refine ⟨_,(nP e k0 hna he),rfl,?_⟩;try simp only [aq,F5,zT,seval,hfr]
   repeat refine ob ?_
   refine awF ?_;refine awK ?_;simp only [F5,zT,seval];refine awN ?_;simp only [F5,zT,seval];repeat refine ob ?_
   by_cases hb:((p.c/2^k0%2:Nat):Int)=1
   ·have yhb:p.c/2^k0%2=1:=by omega
    have w4:=qS k0 (by omega);have w5:=vp p.c k0 hp.2.2 (by omega);refine awN ?_;simp only [F5,zT,seval,yhb,w4,w5];repeat refine ob ?_
    refine awT ?_;refine awN ?_;simp only [F5,zT,seval];repeat refine ob ?_
    have w6:((p.c:Nat):Int).fdiv (2^min 6 IntKind.u16.bits)=((p.c/64:Nat):Int):=by show ((p.c:Nat):Int).fdiv 64=_;rw [Int.fdiv_eq_ediv_of_nonneg _ (by decide)];norm_cast
    have w7:((p.c/64:Nat):Int).tmod 9=((p.c/64%9:Nat):Int):=by norm_cast
    refine awN ?_;simp only [F5,zT,seval,w6,w7];repeat refine ob ?_
    refine ⟨_,(fG ((p.c/64%9:Nat):Int) (by omega) (by omega)),rfl,?_⟩;try simp only [aq,F5,zT,seval,cS]
    repeat refine ob ?_
    by_cases x1:((bgB p k0:Nat):Int)=1
    ·have yx1:bgB p k0=1:=by omega
     refine cf 1000 ?_;dsimp only;refine awD (scT 0 9 (scq [18,20,23,24] .nil)) [0,0,0,0,0,0,0,0,0,0,0,0,0] ?_;simp only [F5,zT,seval,yx1];repeat refine ob ?_
     refine cf 500 ?_;dsimp only;refine awN ?_;simp only [F5,zT,seval];repeat refine ob ?_
     repeat refine ob ?_
     refine ⟨_,bE H [2,3,4,5,6,17,18] [502,503,511,1063,2063,3063] (onR hn (fun x h=>by (try simp only [aj]);repeat rw [if_neg (by omega)]) _),e.claims.length-(k0+1),by omega,k0+1,(bgS e.agrs p k0 T),?a17_s1,?a17_s2,?a17_s3,?a17_nx,by omega,rfl,?i17_0,?i17_1,?i17_2,?i17_3,?st17⟩;case st17=>(simp only [F5,zT,seval,bgS,T3.put,bgP,ay,aT,List.length_append,hfr,yhb,yx1];first|rfl|(simp [bgS,T3.put,bgP,ay,aT,List.length_append,List.length_cons,List.length_nil,hI0,hx,yhx,hfr,hb,yhb,x1,yx1,Nat.add_mul];done))
     case i17_0=>(first|exact hL0|(rw [←hL0];simp only [reduceIte,hI0,hx,yhx,hfr,hb,yhb,x1,yx1];done)|(rw [←hL0];simp [hI0,hx,yhx,hfr,hb,yhb,x1,yx1];done)|(simp [hI0,hx,yhx,hfr,hb,yhb,x1,yx1] at hL0;simpa using hL0)|(rw [←hL0];simp [*];done))
     all_goals (first|omega|assumption|(simp;omega)|(simp_all;done))
    have yx1:¬bgB p k0=1:=by omega
    by_cases x2:((bgB p k0:Nat):Int)=2
    ·have yx2:bgB p k0=2:=by omega
     refine cf 2000 ?_;dsimp only;refine awD (scT 0 9 (scq [18,20,23,24] .nil)) [0,0,0,0,0,0,0,0,0,0,0,0,0] ?_;simp only [F5,zT,seval,yx2];repeat refine ob ?_
     refine cf 500 ?_;dsimp only;refine awN ?_;simp only [F5,zT,seval];repeat refine ob ?_
     repeat refine ob ?_
     refine ⟨_,bE H [2,3,4,5,6,17,18] [502,503,511,1063,2063,3063] (onR hn (fun x h=>by (try simp only [aj]);repeat rw [if_neg (by omega)]) _),e.claims.length-(k0+1),by omega,k0+1,(bgS e.agrs p k0 T),?a20_s1,?a20_s2,?a20_s3,?a20_nx,by omega,rfl,?i20_0,?i20_1,?i20_2,?i20_3,?st20⟩;case st20=>(simp only [F5,zT,seval,bgS,T3.put,bgP,ay,aT,List.length_append,hfr,yhb,yx2];first|rfl|(simp [bgS,T3.put,bgP,ay,aT,List.length_append,List.length_cons,List.length_nil,hI0,hx,yhx,hfr,hb,yhb,x1,yx1,x2,yx2,Nat.add_mul];done))
     case i20_0=>(first|exact hL0|(rw [←hL0];simp only [reduceIte,hI0,hx,yhx,hfr,hb,yhb,x1,yx1,x2,yx2];done)|(rw [←hL0];simp [hI0,hx,yhx,hfr,hb,yhb,x1,yx1,x2,yx2];done)|(simp [hI0,hx,yhx,hfr,hb,yhb,x1,yx1,x2,yx2] at hL0;simpa using hL0)|(rw [←hL0];simp [*];done))
     all_goals (first|omega|assumption|(simp;omega)|(simp_all;done))
    have yx3:bgB p k0=3:=by unfold bgB at *;omega
    have xi3:((bgB p k0:Nat):Int)=3:=by omega
    refine cf 3000 ?_;dsimp only;refine awD (scT 0 9 (scq [18,20,23,24] .nil)) [0,0,0,0,0,0,0,0,0,0,0,0,0] ?_;simp only [F5,zT,seval,yx3];repeat refine ob ?_
    refine cf 500 ?_;dsimp only;refine awN ?_;simp only [F5,zT,seval];repeat refine ob ?_
    repeat refine ob ?_
    refine ⟨_,bE H [2,3,4,5,6,17,18] [502,503,511,1063,2063,3063] (onR hn (fun x h=>by (try simp only [aj]);repeat rw [if_neg (by omega)]) _),e.claims.length-(k0+1),by omega,k0+1,(bgS e.agrs p k0 T),?a23_s1,?a23_s2,?a23_s3,?a23_nx,by omega,rfl,?i23_0,?i23_1,?i23_2,?i23_3,?st23⟩;case st23=>(simp only [F5,zT,seval,bgS,T3.put,bgP,ay,aT,List.length_append,hfr,yhb,yx3];first|rfl|(simp [bgS,T3.put,bgP,ay,aT,List.length_append,List.length_cons,List.length_nil,hI0,hx,yhx,hfr,hb,yhb,x1,yx1,x2,yx3,xi3,Nat.add_mul];done))
    case i23_0=>(first|exact hL0|(rw [←hL0];simp only [reduceIte,hI0,hx,yhx,hfr,hb,yhb,x1,yx1,x2,yx3,xi3];done)|(rw [←hL0];simp [hI0,hx,yhx,hfr,hb,yhb,x1,yx1,x2,yx3,xi3];done)|(simp [hI0,hx,yhx,hfr,hb,yhb,x1,yx1,x2,yx3,xi3] at hL0;simpa using hL0)|(rw [←hL0];simp [*];done))
    all_goals (first|omega|assumption|(simp;omega)|(simp_all;done))
   have yhb:¬p.c/2^k0%2=1:=by omega
   have w4:=qS k0 (by omega);have w5:=vp p.c k0 hp.2.2 (by omega);refine awN ?_;simp only [F5,zT,seval,hb,w4,w5];repeat refine ob ?_
   refine awF ?_;refine awK ?_;simp only [F5,zT,seval];by_cases x1:((bgB p k0:Nat):Int)=1
   ·have yx1:bgB p k0=1:=by omega
    refine cf 1000 ?_;dsimp only;refine awD (scT 0 9 (scq [18,20,23,24] .nil)) [0,0,0,0,0,0,0,0,0,0,0,0,0] ?_;simp only [F5,zT,seval,yx1];repeat refine ob ?_
    refine cf 500 ?_;dsimp only;refine awN ?_;simp only [F5,zT,seval];repeat refine ob ?_
    repeat refine ob ?_
    refine ⟨_,bE H [2,3,4,5,6,17,18] [502,503,511,1063,2063,3063] (onR hn (fun x h=>by (try simp only [aj]);repeat rw [if_neg (by omega)]) _),e.claims.length-(k0+1),by omega,k0+1,(bgS e.agrs p k0 T),?a27_s1,?a27_s2,?a27_s3,?a27_nx,by omega,rfl,?i27_0,?i27_1,?i27_2,?i27_3,?st27⟩;case st27=>(simp only [F5,zT,seval,bgS,T3.put,bgP,ay,aT,List.length_append,hfr,yhb,yx1];first|rfl|(simp [bgS,T3.put,bgP,ay,aT,List.length_append,List.length_cons,List.length_nil,hI0,hx,yhx,hfr,hb,yhb,x1,yx1,Nat.add_mul];done))
    case i27_0=>(first|exact hL0|(rw [←hL0];simp only [reduceIte,hI0,hx,yhx,hfr,hb,yhb,x1,yx1];done)|(rw [←hL0];simp [hI0,hx,yhx,hfr,hb,yhb,x1,yx1];done)|(simp [hI0,hx,yhx,hfr,hb,yhb,x1,yx1] at hL0;simpa using hL0)|(rw [←hL0];simp [*];done))
    all_goals (first|omega|assumption|(simp;omega)|(simp_all;done))
   have yx1:¬bgB p k0=1:=by omega
   by_cases x2:((bgB p k0:Nat):Int)=2
   ·have yx2:bgB p k0=2:=by omega
    refine cf 2000 ?_;dsimp only;refine awD (scT 0 9 (scq [18,20,23,24] .nil)) [0,0,0,0,0,0,0,0,0,0,0,0,0] ?_;simp only [F5,zT,seval,yx2];repeat refine ob ?_
    refine cf 500 ?_;dsimp only;refine awN ?_;simp only [F5,zT,seval];repeat refine ob ?_
    repeat refine ob ?_
    refine ⟨_,bE H [2,3,4,5,6,17,18] [502,503,511,1063,2063,3063] (onR hn (fun x h=>by (try simp only [aj]);repeat rw [if_neg (by omega)]) _),e.claims.length-(k0+1),by omega,k0+1,(bgS e.agrs p k0 T),?a30_s1,?a30_s2,?a30_s3,?a30_nx,by omega,rfl,?i30_0,?i30_1,?i30_2,?i30_3,?st30⟩;case st30=>(simp only [F5,zT,seval,bgS,T3.put,bgP,ay,aT,List.length_append,hfr,yhb,yx2];first|rfl|(simp [bgS,T3.put,bgP,ay,aT,List.length_append,List.length_cons,List.length_nil,hI0,hx,yhx,hfr,hb,yhb,x1,yx1,x2,yx2,Nat.add_mul];done))
    case i30_0=>(first|exact hL0|(rw [←hL0];simp only [reduceIte,hI0,hx,yhx,hfr,hb,yhb,x1,yx1,x2,yx2];done)|(rw [←hL0];simp [hI0,hx,yhx,hfr,hb,yhb,x1,yx1,x2,yx2];done)|(simp [hI0,hx,yhx,hfr,hb,yhb,x1,yx1,x2,yx2] at hL0;simpa using hL0)|(rw [←hL0];simp [*];done))
    all_goals (first|omega|assumption|(simp;omega)|(simp_all;done))
   have yx3:bgB p k0=3:=by unfold bgB at *;omega
   have xi3:((bgB p k0:Nat):Int)=3:=by omega
   refine cf 3000 ?_;dsimp only;refine awD (scT 0 9 (scq [18,20,23,24] .nil)) [0,0,0,0,0,0,0,0,0,0,0,0,0] ?_;simp only [F5,zT,seval,yx3];repeat refine ob ?_
   refine cf 500 ?_;dsimp only;refine awN ?_;simp only [F5,zT,seval];repeat refine ob ?_
   repeat refine ob ?_
   refine ⟨_,bE H [2,3,4,5,6,17,18] [502,503,511,1063,2063,3063] (onR hn (fun x h=>by (try simp only [aj]);repeat rw [if_neg (by omega)]) _),e.claims.length-(k0+1),by omega,k0+1,(bgS e.agrs p k0 T),?a33_s1,?a33_s2,?a33_s3,?a33_nx,by omega,rfl,?i33_0,?i33_1,?i33_2,?i33_3,?st33⟩;case st33=>(simp only [F5,zT,seval,bgS,T3.put,bgP,ay,aT,List.length_append,hfr,yhb,yx3];first|rfl|(simp [bgS,T3.put,bgP,ay,aT,List.length_append,List.length_cons,List.length_nil,hI0,hx,yhx,hfr,hb,yhb,x1,yx1,x2,yx3,xi3,Nat.add_mul];done))
   case i33_0=>(first|exact hL0|(rw [←hL0];simp only [reduceIte,hI0,hx,yhx,hfr,hb,yhb,x1,yx1,x2,yx3,xi3];done)|(rw [←hL0];simp [hI0,hx,yhx,hfr,hb,yhb,x1,yx1,x2,yx3,xi3];done)|(simp [hI0,hx,yhx,hfr,hb,yhb,x1,yx1,x2,yx3,xi3] at hL0;simpa using hL0)|(rw [←hL0];simp [*];done))
   all_goals (first|omega|assumption|(simp;omega)|(simp_all;done))
  refine awR [] [0,0,0,60,60,60,60,0] ?_;simp only [F5,zT,seval,F9,hx,hH,ab bA,ab bg];repeat refine ob ?_
  refine ⟨_,(nP e k0 hna he),rfl,?_⟩;try simp only [aq,F5,zT,seval,hfr]
  repeat refine ob ?_
  refine awT ?_;refine awQ ?_;simp only [F5,zT,seval];refine awN ?_;simp only [F5,zT,seval];repeat refine ob ?_
  repeat refine ob ?_
  refine ⟨_,bE H [2,3,4,5,6,17,18] [502,503,511,1063,2063,3063] (onR hn (fun x h=>by (try simp only [aj]);repeat rw [if_neg (by omega)]) _),e.claims.length-(k0+1),by omega,k0+1,(bgS e.agrs p k0 T),?a36_s1,?a36_s2,?a36_s3,?a36_nx,by omega,rfl,?i36_0,?i36_1,?i36_2,?i36_3,?st36⟩;case st36=>(simp only [F5,zT,seval,bgS,yhx,hfr];first|rfl|(simp [bgS,T3.put,bgP,ay,aT,List.length_append,List.length_cons,List.length_nil,hI0,hx,yhx,hfr,Nat.add_mul];done))
  case i36_0=>(first|exact hL0|(rw [←hL0];simp only [reduceIte,hI0,hx,yhx,hfr];done)|(rw [←hL0];simp [hI0,hx,yhx,hfr];done)|(simp [hI0,hx,yhx,hfr] at hL0;simpa using hL0)|(rw [←hL0];simp [*];done))
  all_goals (first|omega|assumption|(simp;omega)|(simp_all;done))
 obtain rfl:k0=e.claims.length:=by omega
 have hI0:¬(e.claims.length:Int)<(e.claims.length:Int):=by omega
 rw [List.drop_length] at hL0;simp only [bgL] at hL0;refine awN ?_;simp only [F5,zT,seval,cN3,hI0];repeat refine ob ?_
 refine awF ?_;refine awQ ?_;simp only [F5,zT,seval];by_cases hr:((p.a/8%4:Nat):Int)=0
 ·have yhr:p.a/8%4=0:=by omega
  have w8:IntKind.u16.wrap ((p.a:Int).tdiv 8)=((p.a/8:Nat):Int):=by have:=kk (p.a/8) (by omega);rw [←this];norm_cast
  have w9:((p.a/8:Nat):Int).tmod 4=((p.a/8%4:Nat):Int):=by norm_cast
  refine awN ?_;simp only [F5,zT,seval,yhr,w8,w9];repeat refine ob ?_
  refine awT ?_;have wa:IntKind.u16.wrap ((p.a:Int).tdiv 32)=((p.a/32:Nat):Int):=by have:=kk (p.a/32) (by omega);rw [←this];norm_cast
  have wb:((p.a/32:Nat):Int).tmod 3=((p.a/32%3:Nat):Int):=by norm_cast
  refine awN ?_;simp only [F5,zT,seval,wa,wb];repeat refine ob ?_
  by_cases z0:((p.a/32%3:Nat):Int)=0
  ·have yz0:p.a/32%3=0:=by omega
   have wc:IntKind.u16.wrap ((p.a:Int).tdiv 96)=((p.a/96:Nat):Int):=by have:=kk (p.a/96) (by omega);rw [←this];norm_cast
   have wd:((p.a/96:Nat):Int).tmod 7=((p.a/96%7:Nat):Int):=by norm_cast
   refine awD (scT 0 11 (scq [22,25,26,28,31,32] .nil)) [0,0,0,0,0,0,0,0,0,0,0,0,0,0,0,0,0] ?_;simp only [F5,zT,seval,yz0,wc,wd];repeat refine ob ?_
   refine ⟨_,(fG ((p.a/96%7:Nat):Int) (by omega) (by omega)),rfl,?_⟩;try simp only [aq,F5,zT,seval,cS]
   repeat refine ob ?_
   refine ao 590 511 0 (by rfl) (by rfl) (by rfl) (by decide) (by show (5:Nat)≠0;decide) (by show (1:Nat)≠0;decide) rfl ?_;refine ao 2063 511 1 (by rfl) (by rfl) (by rfl) (by decide) (by show (5:Nat)≠0;decide) (by show (1:Nat)≠0;decide) rfl ?_;refine ao 3063 511 2 (by rfl) (by rfl) (by rfl) (by decide) (by show (5:Nat)≠0;decide) (by show (1:Nat)≠0;decide) rfl ?_;refine dL (t:=5) (by rfl) (by rfl) (by decide) (by rfl) ?_;simp only [F5,zT,seval];refine awN ?_;simp only [F5,zT,seval];repeat refine ob ?_
   refine dL (t:=4) (by rfl) (by rfl) (by decide) (by rfl) ?_;refine aE H [4] [] (onR hn (fun x h=>by (try simp only [aj]);repeat rw [if_neg (by omega)]) _) ?_;simp only [F5,zT,seval];refine awX ?_;simp only [F5,zT,seval];simp [bgN,←hL0,bgT,T3.put,aU,aV,aY,ej,bo,aT,yhr,yz0]
  have yz0:¬p.a/32%3=0:=by omega
  by_cases z1:((p.a/32%3:Nat):Int)=1
  ·have yz1:p.a/32%3=1:=by omega
   have wc:IntKind.u16.wrap ((p.a:Int).tdiv 96)=((p.a/96:Nat):Int):=by have:=kk (p.a/96) (by omega);rw [←this];norm_cast
   have wd:((p.a/96:Nat):Int).tmod 7=((p.a/96%7:Nat):Int):=by norm_cast
   refine awD (scT 0 11 (scq [22,25,26,28,31,32] .nil)) [0,0,0,0,0,0,0,0,0,0,0,0,0,0,0,0,0] ?_;simp only [F5,zT,seval,yz1,wc,wd];repeat refine ob ?_
   refine ⟨_,(fG ((p.a/96%7:Nat):Int) (by omega) (by omega)),rfl,?_⟩;try simp only [aq,F5,zT,seval,cS]
   repeat refine ob ?_
   refine ao 1063 511 0 (by rfl) (by rfl) (by rfl) (by decide) (by show (5:Nat)≠0;decide) (by show (1:Nat)≠0;decide) rfl ?_;refine ao 590 511 1 (by rfl) (by rfl) (by rfl) (by decide) (by show (5:Nat)≠0;decide) (by show (1:Nat)≠0;decide) rfl ?_;refine ao 3063 511 2 (by rfl) (by rfl) (by rfl) (by decide) (by show (5:Nat)≠0;decide) (by show (1:Nat)≠0;decide) rfl ?_;refine dL (t:=5) (by rfl) (by rfl) (by decide) (by rfl) ?_;simp only [F5,zT,seval];refine awN ?_;simp only [F5,zT,seval];repeat refine ob ?_
   refine dL (t:=4) (by rfl) (by rfl) (by decide) (by rfl) ?_;refine aE H [4] [] (onR hn (fun x h=>by (try simp only [aj]);repeat rw [if_neg (by omega)]) _) ?_;simp only [F5,zT,seval];refine awX ?_;simp only [F5,zT,seval];simp [bgN,←hL0,bgT,T3.put,aU,aV,aY,ej,bo,aT,yhr,yz1]
  have yz2:p.a/32%3=2:=by omega
  have zi2:((p.a/32%3:Nat):Int)=2:=by omega
  have wc:IntKind.u16.wrap ((p.a:Int).tdiv 96)=((p.a/96:Nat):Int):=by have:=kk (p.a/96) (by omega);rw [←this];norm_cast
  have wd:((p.a/96:Nat):Int).tmod 7=((p.a/96%7:Nat):Int):=by norm_cast
  refine awD (scT 0 11 (scq [22,25,26,28,31,32] .nil)) [0,0,0,0,0,0,0,0,0,0,0,0,0,0,0,0,0] ?_;simp only [F5,zT,seval,yz2,wc,wd];repeat refine ob ?_
  refine ⟨_,(fG ((p.a/96%7:Nat):Int) (by omega) (by omega)),rfl,?_⟩;try simp only [aq,F5,zT,seval,cS]
  repeat refine ob ?_
  refine ao 1063 511 0 (by rfl) (by rfl) (by rfl) (by decide) (by show (5:Nat)≠0;decide) (by show (1:Nat)≠0;decide) rfl ?_;refine ao 2063 511 1 (by rfl) (by rfl) (by rfl) (by decide) (by show (5:Nat)≠0;decide) (by show (1:Nat)≠0;decide) rfl ?_;refine ao 590 511 2 (by rfl) (by rfl) (by rfl) (by decide) (by show (5:Nat)≠0;decide) (by show (1:Nat)≠0;decide) rfl ?_;refine dL (t:=5) (by rfl) (by rfl) (by decide) (by rfl) ?_;simp only [F5,zT,seval];refine awN ?_;simp only [F5,zT,seval];repeat refine ob ?_
  refine dL (t:=4) (by rfl) (by rfl) (by decide) (by rfl) ?_;refine aE H [4] [] (onR hn (fun x h=>by (try simp only [aj]);repeat rw [if_neg (by omega)]) _) ?_;simp only [F5,zT,seval];refine awX ?_;simp only [F5,zT,seval];simp [bgN,←hL0,bgT,T3.put,aU,aV,aY,ej,bo,aT,yhr,yz2]
 have yhr:¬p.a/8%4=0:=by omega
 have w8:IntKind.u16.wrap ((p.a:Int).tdiv 8)=((p.a/8:Nat):Int):=by have:=kk (p.a/8) (by omega);rw [←this];norm_cast
 have w9:((p.a/8:Nat):Int).tmod 4=((p.a/8%4:Nat):Int):=by norm_cast
 refine awN ?_;simp only [F5,zT,seval,hr,w8,w9];repeat refine ob ?_
 refine awF ?_;refine awK ?_;simp only [F5,zT,seval];refine ao 1063 511 0 (by rfl) (by rfl) (by rfl) (by decide) (by show (5:Nat)≠0;decide) (by show (1:Nat)≠0;decide) rfl ?_;refine ao 2063 511 1 (by rfl) (by rfl) (by rfl) (by decide) (by show (5:Nat)≠0;decide) (by show (1:Nat)≠0;decide) rfl ?_;refine ao 3063 511 2 (by rfl) (by rfl) (by rfl) (by decide) (by show (5:Nat)≠0;decide) (by show (1:Nat)≠0;decide) rfl ?_;refine dL (t:=5) (by rfl) (by rfl) (by decide) (by rfl) ?_;simp only [F5,zT,seval];refine awN ?_;simp only [F5,zT,seval];repeat refine ob ?_
 refine dL (t:=4) (by rfl) (by rfl) (by decide) (by rfl) ?_;refine aE H [4] [] (onR hn (fun x h=>by (try simp only [aj]);repeat rw [if_neg (by omega)]) _) ?_;simp only [F5,zT,seval];refine awX ?_;simp only [F5,zT,seval];simp [bgN,←hL0,bgT,aU,aY,ej,bo,yhr]
theorem jf {κ κ':Kx} {vs:List Value} (h:cz κ vs []):cz κ' vs []:=by
 cases vs with
 |nil=>trivial
 |cons v vs=>exact h.elim
end Go.Proofs.YtcgpghifhehlhaaGreatDoor
