/- Groups compared with themselves: the reference's SameGroup; walked by the abstract machine. -/
import Derived.Test.YtcgpghifhehlhaaGreatDoorRv3M
import Derived.Test.YtcgpghifhehlhaaGreatDoorRw5M
import Derived.Test.YtcgpghifhehlhaaGreatDoorCc2M
import Derived.Test.YtcgpghifhehlhaaGreatDoorAb7M
import Derived.Laws.Cover3
import Derived.Test.YtcgpghifhehlhaaGreatDoorDrawWM
set_option linter.unusedVariables false
set_option maxHeartbeats 4000000
set_option maxRecDepth 100000
set_option linter.unusedSimpArgs false
set_option linter.defProp false
set_option linter.unusedSectionVars false
namespace Go.Proofs.YtcgpghifhehlhaaGreatDoor
open Go Go.RowKit Go.Proofs.Tryz
def F60:=And.intro zS (And.intro pm (And.intro tA (yB)))
theorem F61:type_of%F60:=F60
theorem Kl (l:List Leg) (hl:l.length<=1000000000000):ch prog 48 [.one (.sh 2 l.length (ar f9 l)),.one (.sh 2 l.length (ar f9 l))] (one (.bool true)):=by
 refine bF func48 rfl (by decide) (N:=26) rfl (by simp) (R:=[.tmp 4]) rfl fun en k0=>?_
 refine awN ?_;simp only [F61,seval];repeat refine ob ?_
 refine awN ?_;simp only [F61,seval,decide_true,Bool.not_true,BEq.rfl];repeat refine ob ?_
 refine awF ?_;refine awK ?_;simp only [F61,seval];refine awN ?_;simp only [F61,seval];repeat refine ob ?_
 refine aQ [0,1,5] [] ?_;try simp only [aq,F61,seval]
 repeat' first|apply awS|apply awB
 refine aB (fun n st=>∃k nx,k<=l.length/\n=l.length-k/\st=⟨mkT [(0,.val (.one (.sh 2 l.length (ar f9 l)))),(1,.val (.one (.sh 2 l.length (ar f9 l)))),(5,one (.int .i64 k))],mkH [],nx,0⟩) (l.length) ⟨0,_,by omega,by omega,rfl⟩ ?_;rintro n0 st ⟨k,nx0,hk0,rfl,rfl⟩;by_cases hlt0:(k:Int)<(l.length:Int)
 ·refine awN ?_;simp only [F61,seval,hlt0];repeat refine ob ?_
  refine awT ?_;refine awK ?_;simp only [F61,seval];have hk2:k<l.length:=by omega
  have hat:=aO cr l k hk2;have hq:=Lv l[k] l[k];have hqv:=Lw l[k] l[k];refine awD (scT 0 9 .nil) [0,0,0,0,0,0,0,0,0] ?_;simp only [F61,seval,hlt0,hat,f9,hqv,decide_true,Bool.not_true,BEq.rfl];repeat refine ob ?_
  try refine ⟨hq,?_⟩
  repeat refine ob ?_
  refine awF ?_;refine awK ?_;simp only [F61,seval];refine awN ?_;simp only [F61,seval,hlt0];repeat refine ob ?_
  repeat refine ob ?_
  refine ⟨_,aH [0,1,5] [],l.length-(k+1),by omega,k+1,?na7,by omega,rfl,?st7⟩;case st7=>(simp only [F61,seval];first|rfl|(simp;done))
 refine awN ?_;simp only [F61,seval,hlt0];repeat refine ob ?_
 refine awF ?_;refine awQ ?_;simp only [F61,seval];refine awN ?_;simp only [F61,seval,hlt0];repeat refine ob ?_
 refine awX ?_;(first|(simp only [F61,seval,hlt0];done)|(simp only [F61,seval];first|(simp [hlt0];done)))
def F62:=And.intro zS (tu)
theorem F63:type_of%F62:=F62
theorem Km (a:GPart):ch prog 146 [.agg (aT a),.agg (aT a)] (one (.bool true)):=by
 refine bF func146 rfl (by decide) (N:=8) rfl (by simp) (R:=[.tmp 4]) rfl fun en k0=>?_
 refine awN ?_;simp only [F63,seval,aT];repeat refine ob ?_
 have hq:=Lp a;have hqv:=Lq a;refine awN ?_;simp only [F63,seval,aT,hqv];repeat refine ob ?_
 try refine ⟨hq,?_⟩
 repeat refine ob ?_
 refine awX ?_;(first|(simp only [F63,seval,aT];done)|(simp only [F63,seval,aT];first|(simp [];done)))
def F64:=And.intro zS (And.intro tf1 (And.intro tf6 (And.intro tf2 (And.intro tf0 (And.intro tf8 (And.intro pi (And.intro tf3 (tu))))))))
theorem F65:type_of%F64:=F64
theorem Kz (a:cw) (ha:a.length<=1000000000000/\∀t∈a,t.length<=1000000000000):ch prog 98 [.agg (aU a),.agg (aU a)] (one (.bool true)):=by
 have ha1:=ha.1;refine bF func98 rfl (by decide) (N:=62) rfl (by simp) (R:=[.tmp 4]) rfl fun en k0=>?_
 refine awN ?_;simp only [F65,seval,aU];repeat refine ob ?_
 refine awN ?_;simp only [F65,seval,aU,decide_true,Bool.not_true,BEq.rfl];repeat refine ob ?_
 refine awF ?_;refine awK ?_;simp only [F65,seval];refine awN ?_;simp only [F65,seval,aU];repeat refine ob ?_
 refine aQ [2,3,5] [2,3] ?_;try simp only [aq,F65,seval,aU]
 repeat' first|apply awS|apply awB
 refine aB (fun n st=>∃k nx,k<=a.length/\n=a.length-k/\st=⟨mkT [(2,.val (.one (.ptr 2 0 0))),(3,.val (.one (.ptr 3 1 0))),(5,one (.int .i64 k))],mkH [(2,⟨0,50,1,1,aU a⟩),(3,⟨1,50,1,1,aU a⟩)],nx,0⟩) (a.length) ⟨0,_,by omega,by omega,rfl⟩ ?_;rintro n0 st ⟨k,nx0,hk0,rfl,rfl⟩;by_cases hlt0:(k:Int)<(a.length:Int)
 ·refine awN ?_;simp only [F65,seval,aU,hlt0];repeat refine ob ?_
  refine awT ?_;refine awK ?_;simp only [F65,seval];have hk2:k<a.length:=by omega
  have hat:=aO eI a k hk2;rw [Nat.mul_one] at hat;obtain ⟨t,ht⟩:∃t,a[k]=t:=⟨_,rfl⟩;rw [ht] at hat;have hht:=ha.2 t (ht▸List.getElem_mem hk2);refine awD (scT 0 13 .nil) [0,0,0,0,0,0,0,0,0,0,0,0,0] ?_;simp only [F65,seval,aU,hlt0,hat,bo,decide_true,Bool.not_true,BEq.rfl];repeat refine ob ?_
  refine awF ?_;refine awK ?_;simp only [F65,seval];refine awN ?_;simp only [F65,seval,aU,hlt0];repeat refine ob ?_
  refine aQ [2,3,5,6] [2,3] ?_;try simp only [aq,F65,seval,aU,hlt0]
  repeat' first|apply awS|apply awB
  refine aB (fun n st=>∃q nx,q<=t.length/\n=t.length-q/\st=⟨mkT [(2,.val (.one (.ptr 2 0 0))),(3,.val (.one (.ptr 3 1 0))),(5,one (.int .i64 k)),(6,one (.int .i64 q))],mkH [(2,⟨0,50,1,1,aU a⟩),(3,⟨1,50,1,1,aU a⟩)],nx,0⟩) (t.length) ⟨0,_,by omega,by omega,rfl⟩ ?_;rintro n1 st ⟨q,nx1,hk1,rfl,rfl⟩;by_cases hlt1:(q:Int)<(t.length:Int)
  ·refine awN ?_;simp only [F65,seval,aU,hlt0,hlt1,hat,bo];repeat refine ob ?_
   refine awT ?_;refine awK ?_;simp only [F65,seval];have hq2:q<t.length:=by omega
   have hatq:=aO gj t q hq2;refine awD (scT 0 16 (scq [32,35] .nil)) [0,0,0,0,0,0,0,0,0,0,0,0,0,0,0,0,0,0] ?_;simp only [F65,seval,aU,hlt0,hlt1,hat,bo,hatq,aT,decide_true,Bool.not_true,BEq.rfl];repeat refine ob ?_
   refine ⟨_,(Km t[q]),rfl,?_⟩;try simp only [aq,F65,seval,aU,hlt0,hlt1,hat,bo,hatq,aT,decide_true,Bool.not_true,BEq.rfl]
   repeat refine ob ?_
   refine awF ?_;refine awK ?_;simp only [F65,seval];refine awN ?_;simp only [F65,seval,aU,hlt0,hlt1];repeat refine ob ?_
   repeat refine ob ?_
   refine ⟨_,aH [2,3,5,6] [2,3],t.length-(q+1),by omega,q+1,?na10,by omega,rfl,?st10⟩;case st10=>(simp only [F65,seval];first|rfl|(simp;done))
  refine awN ?_;simp only [F65,seval,aU,hlt0,hlt1,hat,bo];repeat refine ob ?_
  refine awF ?_;refine awQ ?_;simp only [F65,seval];refine awN ?_;simp only [F65,seval,aU,hlt0,hlt1];repeat refine ob ?_
  repeat refine ob ?_
  refine ⟨_,aH [2,3,5] [2,3],a.length-(k+1),by omega,k+1,?na13,by omega,rfl,?st13⟩;case st13=>(simp only [F65,seval];first|rfl|(simp;done))
 refine awN ?_;simp only [F65,seval,aU,hlt0];repeat refine ob ?_
 refine awF ?_;refine awQ ?_;simp only [F65,seval];refine awN ?_;simp only [F65,seval,aU,hlt0];repeat refine ob ?_
 refine awX ?_;(first|(simp only [F65,seval,aU,hlt0];done)|(simp only [F65,seval,aU];first|(simp [hlt0];done)))
def F66:=And.intro zS (And.intro yE (And.intro Jy (And.intro zw (And.intro pj (And.intro yG (And.intro pk (And.intro zA (And.intro zB (And.intro tx (And.intro pn (And.intro nK (jS))))))))))))
theorem F67:type_of%F66:=F66
theorem KA (e:GEst) (he:e.claims.length<=1000000000000/\e.agrs.length<=1000000000000/\∀a∈e.agrs,a.length<=1000000000000/\∀t∈a,t.length<=1000000000000):ch prog 47 [.agg (bh e),.agg (bh e)] (one (.bool true)):=by
 have he1:=he.1;have he2:=he.2.1;refine bF func47 rfl (by decide) (N:=67) rfl (by simp) (R:=[.tmp 4]) rfl fun en k0=>?_
 refine awN ?_;simp only [F67,seval,bh];repeat refine ob ?_
 have hq:=KS e.cash;have hqv:=KT e.cash;refine awR [] [0,0,0,0,0,0,26,26,26,26,26,26,26,0,0,44,44,44,44,44,44,44,0] ?_;simp only [F67,seval,bh,hqv,decide_true,Bool.not_true,BEq.rfl];repeat refine ob ?_
 try refine ⟨hq,?_⟩
 repeat refine ob ?_
 refine awF ?_;refine awK ?_;simp only [F67,seval];refine awN ?_;simp only [F67,seval,bh];repeat refine ob ?_
 refine aQ [2,3,5] [2,3] ?_;try simp only [aq,F67,seval,bh]
 repeat' first|apply awS|apply awB
 refine aB (fun n st=>∃k nx,k<=e.claims.length/\n=e.claims.length-k/\st=⟨mkT [(2,.val (.one (.ptr 2 0 0))),(3,.val (.one (.ptr 3 1 0))),(5,one (.int .i64 k))],mkH [(2,⟨0,36,5,1,bh e⟩),(3,⟨1,36,5,1,bh e⟩)],nx,0⟩) (e.claims.length) ⟨0,_,by omega,by omega,rfl⟩ ?_;rintro n0 st ⟨k,nx0,hk0,rfl,rfl⟩;by_cases hlt0:(k:Int)<(e.claims.length:Int)
 ·refine awN ?_;simp only [F67,seval,bh,hlt0];repeat refine ob ?_
  refine awT ?_;refine awK ?_;simp only [F67,seval];have hk2:k<e.claims.length:=by omega
  have hat:=aO bX e.claims k hk2;have hq:=K2 e.claims[k];have hqv:=K3 e.claims[k];refine awD (scT 0 11 .nil) [0,0,0,0,0,0,0,0,0,0,0] ?_;simp only [F67,seval,bh,hlt0,hat,aA,hqv,decide_true,Bool.not_true,BEq.rfl];repeat refine ob ?_
  try refine ⟨hq,?_⟩
  repeat refine ob ?_
  refine awF ?_;refine awK ?_;simp only [F67,seval];refine awN ?_;simp only [F67,seval,bh,hlt0];repeat refine ob ?_
  repeat refine ob ?_
  refine ⟨_,aH [2,3,5] [2,3],e.claims.length-(k+1),by omega,k+1,?na7,by omega,rfl,?st7⟩;case st7=>(simp only [F67,seval];first|rfl|(simp;done))
 refine awN ?_;simp only [F67,seval,bh,hlt0];repeat refine ob ?_
 refine awF ?_;refine awQ ?_;simp only [F67,seval];refine awN ?_;simp only [F67,seval,bh,hlt0];repeat refine ob ?_
 refine aQ [2,3,6] [2,3] ?_;try simp only [aq,F67,seval,bh,hlt0]
 repeat' first|apply awS|apply awB
 refine aB (fun n st=>∃q nx,q<=e.agrs.length/\n=e.agrs.length-q/\st=⟨mkT [(2,.val (.one (.ptr 2 0 0))),(3,.val (.one (.ptr 3 1 0))),(6,one (.int .i64 q))],mkH [(2,⟨0,36,5,1,bh e⟩),(3,⟨1,36,5,1,bh e⟩)],nx,0⟩) (e.agrs.length) ⟨0,_,by omega,by omega,rfl⟩ ?_;rintro n1 st ⟨q,nx1,hk1,rfl,rfl⟩;by_cases hlt1:(q:Int)<(e.agrs.length:Int)
 ·refine awN ?_;simp only [F67,seval,bh,hlt0,hlt1];repeat refine ob ?_
  refine awT ?_;refine awK ?_;simp only [F67,seval];have hq2:q<e.agrs.length:=by omega
  have hatq:=aO dG e.agrs q hq2;rw [Nat.mul_one] at hatq;have hX:=Kz e.agrs[q] (he.2.2 _ (List.getElem_mem hq2));refine awD (scT 0 10 (scq [20,23] .nil)) [0,0,0,0,0,0,0,0,0,0,0,0] ?_;simp only [F67,seval,bh,hlt0,hlt1,hatq,aU,ab cA,decide_true,Bool.not_true,BEq.rfl];repeat refine ob ?_
  refine ⟨_,hX,rfl,?_⟩;try simp only [aq,F67,seval,bh,hlt0,hlt1,hatq,aU,ab cA,decide_true,Bool.not_true,BEq.rfl]
  repeat refine ob ?_
  refine awF ?_;refine awK ?_;simp only [F67,seval];refine awN ?_;simp only [F67,seval,bh,hlt0,hlt1];repeat refine ob ?_
  repeat refine ob ?_
  refine ⟨_,aH [2,3,6] [2,3],e.agrs.length-(q+1),by omega,q+1,?na13,by omega,rfl,?st13⟩;case st13=>(simp only [F67,seval];first|rfl|(simp;done))
 refine awN ?_;simp only [F67,seval,bh,hlt0,hlt1];repeat refine ob ?_
 refine awF ?_;refine awQ ?_;simp only [F67,seval];refine awN ?_;simp only [F67,seval,bh,hlt0,hlt1];repeat refine ob ?_
 refine awX ?_;(first|(simp only [F67,seval,bh,hlt0,hlt1];done)|(simp only [F67,seval,bh];first|(simp [hlt0,hlt1];done)))
def sgE (e:GEst):Prop:=e.claims.length<=1000000000000/\e.agrs.length<=1000000000000/\∀a∈e.agrs,a.length<=1000000000000/\∀t∈a,t.length<=1000000000000
def sgG (g:GGrp):Prop:=g.ests.length<=1000000000000/\(∀e∈g.ests,sgE e)/\g.debts.length<=1000000000000/\∀d∈g.debts,d.legs.length<=1000000000000
def F68:=And.intro zS (And.intro nN (And.intro KF (And.intro vd (And.intro u6 (And.intro xe (And.intro xf (And.intro tv (And.intro qO (And.intro zZ (And.intro tz (And.intro xg (And.intro tC (jS)))))))))))))
theorem F69:type_of%F68:=F68
theorem J8 (g:GGrp) (hg:sgG g):ch prog 20 [.agg (au g),.agg (au g)] (one (.bool true)):=by
 have hg1:=hg.1;have hg2:=hg.2.2.1;refine bF func20 rfl (by decide) (N:=78) rfl (by simp) (R:=[.tmp 4]) rfl fun en k0=>?_
 refine awN ?_;simp only [F69,seval,au];repeat refine ob ?_
 refine awR [] [0,0,0,0,0,0,0,0,30,30,30,30,30,30,30,0] ?_;simp only [F69,seval,au,decide_true,Bool.not_true,BEq.rfl];repeat refine ob ?_
 refine awF ?_;refine awK ?_;simp only [F69,seval];refine awN ?_;simp only [F69,seval,au];repeat refine ob ?_
 refine aQ [2,3,5] [2,3] ?_;try simp only [aq,F69,seval,au]
 repeat' first|apply awS|apply awB
 refine aB (fun n st=>∃k nx,k<=g.ests.length/\n=g.ests.length-k/\st=⟨mkT [(2,.val (.one (.ptr 2 0 0))),(3,.val (.one (.ptr 3 1 0))),(5,one (.int .i64 k))],mkH [(2,⟨0,28,2,1,au g⟩),(3,⟨1,28,2,1,au g⟩)],nx,0⟩) (g.ests.length) ⟨0,_,by omega,by omega,rfl⟩ ?_;rintro n0 st ⟨k,nx0,hk0,rfl,rfl⟩;by_cases hlt0:(k:Int)<(g.ests.length:Int)
 ·refine awN ?_;simp only [F69,seval,au,hlt0];repeat refine ob ?_
  refine awT ?_;refine awK ?_;simp only [F69,seval];have hk2:k<g.ests.length:=by omega
  have hat:=aO de g.ests k hk2;have hX:=KA g.ests[k] (hg.2.1 _ (List.getElem_mem hk2));refine awD (scT 0 10 (scq [20,23] .nil)) [0,0,0,0,0,0,0,0,0,0,0,0] ?_;simp only [F69,seval,au,hlt0,hat,bh,ab bA,ab bg,decide_true,Bool.not_true,BEq.rfl];repeat refine ob ?_
  refine ⟨_,hX,(by first|rfl|simp [bu,aI,av,az,A1.cells,ab bA,ab bg]),?_⟩;try simp only [aq,F69,seval,au,hlt0,hat,bh,ab bA,ab bg,decide_true,Bool.not_true,BEq.rfl]
  repeat refine ob ?_
  refine awF ?_;refine awK ?_;simp only [F69,seval];refine awN ?_;simp only [F69,seval,au,hlt0];repeat refine ob ?_
  repeat refine ob ?_
  refine ⟨_,aH [2,3,5] [2,3],g.ests.length-(k+1),by omega,k+1,?na7,by omega,rfl,?st7⟩;case st7=>(simp only [F69,seval];first|rfl|(simp;done))
 refine awN ?_;simp only [F69,seval,au,hlt0];repeat refine ob ?_
 refine awF ?_;refine awQ ?_;simp only [F69,seval];refine awN ?_;simp only [F69,seval,au,hlt0];repeat refine ob ?_
 refine aQ [2,3,6] [2,3] ?_;try simp only [aq,F69,seval,au,hlt0]
 repeat' first|apply awS|apply awB
 refine aB (fun n st=>∃q nx,q<=g.debts.length/\n=g.debts.length-q/\st=⟨mkT [(2,.val (.one (.ptr 2 0 0))),(3,.val (.one (.ptr 3 1 0))),(6,one (.int .i64 q))],mkH [(2,⟨0,28,2,1,au g⟩),(3,⟨1,28,2,1,au g⟩)],nx,0⟩) (g.debts.length) ⟨0,_,by omega,by omega,rfl⟩ ?_;rintro n1 st ⟨q,nx1,hk1,rfl,rfl⟩;by_cases hlt1:(q:Int)<(g.debts.length:Int)
 ·refine awN ?_;simp only [F69,seval,au,hlt0,hlt1];repeat refine ob ?_
  refine awT ?_;refine awK ?_;simp only [F69,seval];have hq2:q<g.debts.length:=by omega
  have hatq:=aO dT g.debts q hq2;have hq:=KS g.debts[q].whole;have hqv:=KT g.debts[q].whole;have hX:=Kl g.debts[q].legs (hg.2.2.2 _ (List.getElem_mem hq2));refine awD (scT 0 26 (scq [52,55,57] .nil)) [0,0,0,0,0,0,0,0,0,0,0,0,0,0,126,126,126,126,126,126,126,126,126,126,126,126,126,126,0] ?_;simp only [F69,seval,au,hlt0,hlt1,hatq,cn,hqv,ab mN,decide_true,Bool.not_true,BEq.rfl];repeat refine ob ?_
  try refine ⟨hq,?_⟩
  repeat refine ob ?_
  refine ⟨_,hX,(by first|rfl|simp [bu,aI,av,az,A1.cells,ab mN]),?_⟩;try simp only [aq,F69,seval,hqv,hatq,cn]
  repeat refine ob ?_
  refine awF ?_;refine awK ?_;simp only [F69,seval];refine awN ?_;simp only [F69,seval,au,hlt0,hlt1];repeat refine ob ?_
  repeat refine ob ?_
  refine ⟨_,aH [2,3,6] [2,3],g.debts.length-(q+1),by omega,q+1,?na13,by omega,rfl,?st13⟩;case st13=>(simp only [F69,seval];first|rfl|(simp;done))
 refine awN ?_;simp only [F69,seval,au,hlt0,hlt1];repeat refine ob ?_
 refine awF ?_;refine awQ ?_;simp only [F69,seval];refine awN ?_;simp only [F69,seval,au,hlt0,hlt1];repeat refine ob ?_
 refine awX ?_;(first|(simp only [F69,seval,au,hlt0,hlt1];done)|(simp only [F69,seval,au];first|(simp [hlt0,hlt1];done)))
section
variable {Q : GRat → Prop} (h0 : Q gZ) (h1 : ∀ x, Q (enc (cY x))) (h2 : ∀ n : Nat, n < 9 → Q (enc (((n : Nat) : Int) : Rat)))
include h0 h2
end
theorem Ly {Pr Pr':GEst->Prop} {es:List GEst} (f:GEst->GEst) (hf:∀e,Pr e->Pr' (f e)) (hm:∀e,Pr e->Pr' e) (j:Nat) (h:∀e∈es,Pr e):∀e∈upE es j f,Pr' e:=fun e he=>by
 unfold upE at he;obtain ⟨i,hi,rfl⟩:=List.getElem_of_mem he;rw [List.getElem_set];split
 ·rename_i hji;subst hji;have hj:j<es.length:=by simpa using hi
  rw [sD _ _ hj];exact hf _ (h _ (List.getElem_mem hj))
 exact hm _ (h _ (List.getElem_mem (by simpa using hi)))
def sgX (C:Nat) (e:GEst):Prop:=e.claims.length<=C/\e.agrs.length<=1000000000000/\∀a∈e.agrs,a.length<=1000000000000/\∀t∈a,t.length<=1000000000000
theorem Lz {C:Nat} {e:GEst} (h:sgX C e):sgX (C+1) e:=⟨Nat.le_succ_of_le h.1,h.2⟩
theorem LO {C:Nat} {es:List GEst} {est hold rank:Int} {amt:GRat} (h:∀e∈es,sgX C e):∀e∈zz es est hold rank amt,sgX (C+1) e:=by
 have h1:=Ly (Pr':=sgX C) (adE (qOf amt)) (fun e he=>he) (fun e he=>he) est.toNat h;have h2:∀e∈(if hold= -1 then upE es est.toNat (adE (qOf amt)) else upE (upE es est.toNat (adE (qOf amt))) hold.toNat (sbE (qOf amt))),sgX C e:=by
  split
  ·exact h1
  exact Ly (sbE (qOf amt)) (fun e he=>he) (fun e he=>he) hold.toNat h1
 unfold zz;dsimp only;split
 ·exact fun e he=>Lz (h2 e he)
 exact Ly (apE _) (fun e he=>⟨by have:=he.1;simp [apE];omega,he.2⟩) (fun e he=>Lz he) est.toNat h2
theorem KX:∀(l:List GRet) (es:List GEst) (C:Nat),(∀e∈es,sgX C e)->(∀e∈(m9 l es).1,sgX (C+l.length) e)/\(m9 l es).1.length<=es.length
 |[],es,C,h=>⟨h,Nat.le_refl _⟩
 |r::l,es,C,h=>by
  simp only [m9];split
  ·have h1:=KX l _ (C+1) (LO (est:=r.est) (hold:=r.holder) (rank:=r.rank) (amt:=r.amount) h);rw [Jz] at h1;refine ⟨fun e he=>?_,h1.2⟩;have:=h1.1 e he;rwa [show C+1+l.length=C+(r::l).length by simp;omega] at this
  exact ⟨by simp,by simp⟩
theorem L9 {C:Nat} {es:List GEst} (h:∀e∈es,sgX C e):∀e∈es.map clE,sgX C e:=fun e he=>by
 obtain ⟨e0,h0,rfl⟩:=List.mem_map.1 he;obtain ⟨a1,a2,a3⟩:=h e0 h0;refine ⟨by simpa [clE] using a1,by simpa [clE] using a2,fun a ha=>?_⟩;obtain ⟨b,hb,rfl⟩:=List.mem_map.1 ha;obtain ⟨b1,b2⟩:=a3 b hb;refine ⟨by simpa [clA] using b1,fun t ht=>?_⟩;obtain ⟨u,hu,rfl⟩:=List.mem_map.1 ht;simpa [clT] using b2 u hu
theorem Kn:sgG ⟨[],[]⟩:=⟨by simp,by simp,by simp,by simp⟩
theorem Ma (gc:Int) (g:GGrp) (l:List GRet) (hn:g.ests.length<=1000000) (he:∀e∈g.ests,sgX 900000 e) (hd:g.debts.length<=1000000) (hd2:∀d∈g.debts,d.legs.length<=1000000):sgG (rvS gc g l).1:=by
 unfold rvS;split
 ·split
  ·exact Kn
  split
  ·have h1:=KX l (g.ests.map clE) 900000 (L9 he);rw [List.length_map] at h1;refine ⟨by have:=h1.2;dsimp only;omega,fun e hx=>?_,by simp;omega,fun d hx=>?_⟩
   ·obtain ⟨a1,a2⟩:=h1.1 e hx;exact ⟨by omega,a2⟩
   obtain ⟨d0,h0,rfl⟩:=List.mem_map.1 hx;have:=hd2 d0 h0;show d0.legs.length<=_;omega
  exact Kn
 exact Kn
inductive Tr (α:Type) where
 |leaf:Tr α
 |node (x:Option α) (l r:Tr α):Tr α
def Tr.seq {α β:Type} (t:Tr α) (k:Tr α->β):β:=match t with
 | .leaf=>k .leaf
 | .node x l r=>k (.node x l r)
theorem Tr.seq_eq {α β:Type} (t:Tr α) (k:Tr α->β):t.seq k=k t:=by cases t<;>rfl
def Tr.get {α:Type}:Tr α->Nat->Option α
 | .leaf,_=>none
 | .node x l r,n=>bif Nat.beq n 0 then x else bif Nat.beq (Nat.mod n 2) 1 then l.get (Nat.div n 2) else r.get (Nat.pred (Nat.div n 2))
def Tr.putF {α:Type} (y:Option α):Nat->Tr α->Nat->Tr α
 |0,t,_=>t
 |f+1,t,n=>match t with
  | .leaf=>bif Nat.beq n 0 then .node y .leaf .leaf else bif Nat.beq (Nat.mod n 2) 1 then (Tr.putF y f .leaf (Nat.div n 2)).seq fun l=> .node none l .leaf else (Tr.putF y f .leaf (Nat.pred (Nat.div n 2))).seq fun r=> .node none .leaf r
  | .node x l r=>bif Nat.beq n 0 then .node y l r else bif Nat.beq (Nat.mod n 2) 1 then (Tr.putF y f l (Nat.div n 2)).seq fun l'=> .node x l' r else (Tr.putF y f r (Nat.pred (Nat.div n 2))).seq fun r'=> .node x l r'
def Tr.put {α:Type} (t:Tr α) (n:Nat) (y:Option α):Tr α:=Tr.putF y (n+1) t n
theorem DX (n m:Nat):Nat.mod n m=n%m:=rfl
theorem DY (n m:Nat):Nat.div n m=n/m:=rfl
theorem CY (n:Nat):Nat.pred n=n-1:=by cases n<;>rfl
theorem Bt (n m:Nat):Nat.beq n m=decide (n=m):=by
 rw [Bool.eq_iff_iff,decide_eq_true_eq,Nat.beq_eq]
theorem Tr.get_leaf {α:Type} (m:Nat):(Tr.leaf:Tr α).get m=none:=rfl
theorem Tr.get_node {α:Type} (x:Option α) (l r:Tr α) (n:Nat):(Tr.node x l r).get n=if n=0 then x else if n%2=1 then l.get (n/2) else r.get (n/2-1):=by
 simp only [Tr.get,DX,DY,CY,Bt,cond_eq_ite,decide_eq_true_eq]
theorem Tr.get_putF {α:Type} (y:Option α):∀(f:Nat) (t:Tr α) (n m:Nat),n<f->(Tr.putF y f t n).get m=if m=n then y else t.get m
 |0,_,_,_,h=>by omega
 |f+1,.leaf,n,m,h=>by
  simp only [Tr.putF,DX,DY,CY,Bt,cond_eq_ite,decide_eq_true_eq,Tr.seq_eq];split
  ·rename_i h0;subst h0;rw [Tr.get_node,Tr.get_leaf,Tr.get_leaf,Tr.get_leaf];simp
  split
  ·rw [Tr.get_node,Tr.get_putF y f .leaf _ _ (by omega)];simp only [Tr.get_leaf];by_cases hm:m=n
   ·subst hm;rw [if_pos rfl,if_neg (by omega),if_pos (by omega),if_pos rfl]
   rw [if_neg hm];split<;>try rfl
   split<;>try rfl
   rw [if_neg (by omega)]
  rw [Tr.get_node,Tr.get_putF y f .leaf _ _ (by omega)];simp only [Tr.get_leaf];by_cases hm:m=n
  ·subst hm;rw [if_pos rfl,if_neg (by omega),if_neg (by omega),if_pos rfl]
  rw [if_neg hm];split<;>try rfl
  split<;>try rfl
  rw [if_neg (by omega)]
 |f+1,.node x l r,n,m,h=>by
  simp only [Tr.putF,DX,DY,CY,Bt,cond_eq_ite,decide_eq_true_eq,Tr.seq_eq];split
  ·rename_i h0;subst h0;rw [Tr.get_node,Tr.get_node];split<;>rfl
  split
  ·rw [Tr.get_node,Tr.get_node,Tr.get_putF y f l _ _ (by omega)];by_cases hm:m=n
   ·subst hm;rw [if_pos rfl,if_neg (by omega),if_pos (by omega),if_pos rfl]
   rw [if_neg hm];split<;>try rfl
   split<;>try rfl
   rw [if_neg (by omega)]
  rw [Tr.get_node,Tr.get_node,Tr.get_putF y f r _ _ (by omega)];by_cases hm:m=n
  ·subst hm;rw [if_pos rfl,if_neg (by omega),if_neg (by omega),if_pos rfl]
  rw [if_neg hm];split<;>try rfl
  split<;>try rfl
  rw [if_neg (by omega)]
theorem Tr.get_put {α:Type} (t:Tr α) (n:Nat) (y:Option α) (m:Nat):(t.put n y).get m=if m=n then y else t.get m:=Tr.get_putF y (n+1) t n m (by omega)
structure ES where
 tm:Tr AV
 H:Tr Blk
 nx:Nat
def ES.tmF (s:ES):Nat->AV:=fun t=>(s.tm.get t).getD .dead
def ES.hF (s:ES):Hp:=fun nm=>s.H.get nm
def ES.st (nb:Nat) (s:ES):St:=⟨s.tmF,s.hF,s.nx,nb⟩
def ES.putT (s:ES) (d:Nat) (x:AV):ES:=⟨s.tm.put d (some x),s.H,s.nx⟩
def ES.putH (s:ES) (nm:Nat) (B:Blk):ES:=⟨s.tm,s.H.put nm (some B),s.nx⟩
theorem ES.tmF_put (s:ES) (d:Nat) (x:AV):(s.putT d x).tmF=up s.tmF d x:=by
 funext t;simp only [ES.tmF,ES.putT,Tr.get_put,aj];split<;>rfl
theorem Ax (H:Tr Blk) (nm:Nat) (B:Option Blk):(fun n=>(H.put nm B).get n)=up (fun n=>H.get n) nm B:=by
 funext n;simp only [Tr.get_put,aj]
theorem ES.hF_put (s:ES) (nm:Nat) (B:Blk):(s.putH nm B).hF=up s.hF nm (some B):=Ax s.H nm (some B)
theorem Rel.nb {e:En} {k0:Kx} {N:Nat} {tm:Nat->AV} {H:Hp} {nx nb:Nat} {a:Act} {w:World} (hr:Rel e k0 N ⟨tm,H,nx,nb⟩ a w) (nb':Nat):Rel e k0 N ⟨tm,H,nx,nb'⟩ a w:=⟨hr.ex,hr.df,hr.sz⟩
theorem RW.later {e:En} {H:Hp} {nx nx':Nat} {σ:Nat->Value} {w:World} (h:RW e H nx σ w) (hn:nx<=nx'):RW e H nx' σ w/\Ext (kx e H nx σ w) (kx e H nx' σ w):=by
 have hext:Ext (kx e H nx σ w) (kx e H nx' σ w):=⟨hn,fun b hb=>⟨⟨hb.1,hb.2.1,hb.2.2⟩,rfl⟩,fun nm B hB=> .inr ⟨B,hB,rfl,rfl,rfl,rfl⟩⟩;exact ⟨⟨h.bel,h.hT,fun nm B hB=>⟨Nat.lt_of_lt_of_le (h.blk nm B hB).1 hn,(h.blk nm B hB).2.kept (row:=none) ⟨rfl,rfl,rfl,Nat.le_refl _,fun _ _ _=>rfl⟩ (Classical.em _) rfl rfl hext⟩,h.inj⟩,hext⟩
theorem Rel.later {e:En} {k0:Kx} {N:Nat} {tm:Nat->AV} {H:Hp} {nx nx' nb:Nat} {a:Act} {w:World} (hr:Rel e k0 N ⟨tm,H,nx,nb⟩ a w) (hn:nx<=nx'):Rel e k0 N ⟨tm,H,nx',nb⟩ a w:=by
 obtain ⟨σ,h1,h2,h3⟩:=hr.ex;obtain ⟨k1,k2⟩:=h1.later hn;exact ⟨⟨σ,k1,fun t=>dz k2 (h2 t),h3.trans k2⟩,hr.df,hr.sz⟩
def AH (st:St) (nm s:Nat):Bool:=match st.H nm with
 |some B=>Nat.beq B.st s
 |none=>false
theorem Jt {st:St} {nm s:Nat} (h:AH st nm s=true):∃B,st.H nm=some B/\B.st=s:=by
 unfold AH at h;split at h
 ·rename_i B hB;exact ⟨B,hB,Nat.eq_of_beq_eq_true h⟩
 cases h
def inB (n:Int):Bool:=decide (-9223372036854775808<=n)&&decide (n<=9223372036854775807)
theorem CZ {n:Int} (h:inB n=true):inK .i64 n:=by
 have h1:IntKind.i64.min= -9223372036854775808:=by decide
 have h2:IntKind.i64.max=9223372036854775807:=by decide
 unfold inB at h;simp only [Bool.and_eq_true,decide_eq_true_eq] at h;unfold inK;rw [h1,h2];exact h
def FV:IntKind->Bool
 | .i64=>true
 |_=>false
def qL (P:Program) (st:St):Op->Bool
 | .fieldAddr _ x _=>match ev st x with
  | .val (.one (.ptr nm s' _))=>AH st nm s'
  |_=>true
 | .indexAddr t x ix=>match ev st x,ev st ix,elT P t,arT P t with
  | .val (.one (.own nm s' n sz)),.val (.one (.lit (.int _ i))),some (_,sz',_),_=>Nat.beq sz sz'&&(decide (0<=i)&&(decide (i<n)&&AH st nm s'))
  | .val (.one (.sh sz n _)),.val (.one (.lit (.int _ i))),some (_,sz',_),_=>Nat.beq sz sz'&&(decide (0<=i)&&decide (i<n))
  | .val (.one (.ptr nm s' _)),.val (.one (.lit (.int _ i))),_,some (n,_,_)=>decide (0<=i)&&(decide (i<n)&&AH st nm s')
  | .val (.one (.sp _)),.val (.one (.lit (.int _ i))),_,some (n,_,_)=>decide (0<=i)&&decide (i<n)
  |_,_,_,_=>false
 | .load t x=>match ev st x,ldT P t with
  | .val (.one (.ptr nm s' off)),some (ag,sz)=>match st.H nm with
   |some B=>Nat.beq B.st s'&&(decide (off+sz<=B.cs.length)&&(ag||Nat.beq sz 1))
   |none=>false
  | .val (.one (.sp cs)),some (ag,sz)=>decide (sz<=cs.length)&&(ag||Nat.beq sz 1)
  |_,_=>false
 | .nilCheck x=>match ev st x with
  | .val (.one (.ptr nm s' _))=>AH st nm s'
  |_=>true
 |_=>false
section
variable {P : Program} {st : St} {p : Prop} {x : AV}
theorem C0 {ag:Bool} {sz:Nat} (h:(ag||Nat.beq sz 1)=true):ag=true∨sz=1:=by
 rcases Bool.or_eq_true_iff.1 h with h|h
 ·exact .inl h
 exact .inr (Nat.eq_of_beq_eq_true h)
theorem CB {op:Op} (hc:qL P st op=true) (h:im P st op=some (p,x)):p:=by
 cases op<;>simp only [qL,im,reduceCtorEq] at hc h;case fieldAddr s y f=>
  split at h<;>try (cases h;done)
  ·rename_i nm s' off o' ft he hf;rw [he] at hc;simp only [Option.some.injEq,Prod.mk.injEq] at h;rw [←h.1];exact Jt hc
  simp only [Option.some.injEq,Prod.mk.injEq] at h;rw [←h.1];trivial
 case indexAddr t y ix=>
  split at h<;>try (cases h;done)
  all_goals
   rename_i h1 h2 h3;simp only [Option.some.injEq,Prod.mk.injEq] at h;obtain ⟨rfl,_⟩:=h
  ·rw [h1,h2,h3] at hc;simp only [Bool.and_eq_true,decide_eq_true_eq] at hc;exact ⟨Nat.eq_of_beq_eq_true hc.1,hc.2.1,hc.2.2.1,Jt hc.2.2.2⟩
  ·rw [h1,h2,h3] at hc;simp only [Bool.and_eq_true,decide_eq_true_eq] at hc;exact ⟨Nat.eq_of_beq_eq_true hc.1,hc.2.1,hc.2.2⟩
  ·rw [h1,h2,h3] at hc;simp only [Bool.and_eq_true,decide_eq_true_eq] at hc;exact ⟨hc.1,hc.2.1,Jt hc.2.2⟩
  rw [h1,h2,h3] at hc;simp only [Bool.and_eq_true,decide_eq_true_eq] at hc;exact hc
 case load t y=>
  split at h<;>try (cases h;done)
  ·rename_i h1 h2;rw [h1,h2] at hc;split at h<;>try (cases h;done)
   rename_i B hB;simp only [hB,Bool.and_eq_true,decide_eq_true_eq] at hc;simp only [Option.some.injEq,Prod.mk.injEq] at h;obtain ⟨rfl,_⟩:=h;exact ⟨Nat.eq_of_beq_eq_true hc.1,hc.2.1,C0 hc.2.2⟩
  rename_i h1 h2;rw [h1,h2] at hc;simp only [Bool.and_eq_true,decide_eq_true_eq] at hc;simp only [Option.some.injEq,Prod.mk.injEq] at h;obtain ⟨rfl,_⟩:=h;exact ⟨hc.1,C0 hc.2⟩
 case nilCheck y=>
  split at h<;>try (cases h;done)
  ·rename_i h1;rw [h1] at hc;simp only [Option.some.injEq,Prod.mk.injEq] at h;rw [←h.1];exact Jt hc
  simp only [Option.some.injEq,Prod.mk.injEq] at h;rw [←h.1];trivial
end
def Bd (P:Program) (t:TypeId):Bool:=match P.underlying t with
 |some .bool=>true
 |_=>false
theorem BM {P:Program} {t:TypeId} (h:Bd P t=true):P.underlying t=some .bool:=by
 unfold Bd at h;split at h
 ·assumption
 cases h
def AI (P:Program) (t:TypeId):Bool:=match P.underlying t with
 |some .string=>true
 |_=>false
theorem q9 {P:Program} {t:TypeId} (h:AI P t=true):P.underlying t=some .string:=by
 unfold AI at h;split at h
 ·assumption
 cases h
def Cf (P:Program) (op:BinOp) (t:TypeId):Value->Value->Bool
 | .int k a,.int _ b=>match op with
  | .shl=>decide (0<=b)
  | .shr=>decide (0<=b)
  | .add=> !(FV k)||inB (a+b)
  | .sub=> !(FV k)||inB (a-b)
  | .mul=> !(FV k)||inB (a*b)
  | .quo=> !(decide (b=0))
  | .rem=> !(decide (b=0))
  |_=>true
 | .bool _,.bool _=>Bd P t
 |_,_=>true
section
variable {P : Program} {st : St} {p : Prop} {x : AV}
theorem Cg {k:IntKind} {n:Int} {β:Type} {v v' x':β} {q:Prop} (hc:(!(FV k)||inB n)=true) (h:(if k= .i64 then some (inK k n,v) else some (True,v'))=some (q,x')):q:=by
 split at h
 ·rename_i hk;subst hk;simp only [Option.some.injEq,Prod.mk.injEq] at h;rw [←h.1];exact CZ (by simpa [FV] using hc)
 simp only [Option.some.injEq,Prod.mk.injEq] at h;rw [←h.1];trivial
theorem C3 {op:BinOp} {t:TypeId} {u v r:Value} (hc:Cf P op t u v=true) (h:kF P op t u v=some (p,r)):p:=by
 cases u<;>try (simp only [kF] at h;cases h;done)
 ·cases v<;>try (simp only [kF] at h;cases h;done)
  simp only [Cf] at hc;cases op<;>simp only [kF] at h<;>try (cases h;done)
  all_goals
   simp only [Option.some.injEq,Prod.mk.injEq] at h;rw [←h.1];exact BM hc
 ·cases v<;>try (simp only [kF] at h;cases h;done)
  cases op<;>simp only [kF,Cf,decide_eq_true_eq,Bool.not_eq_true',decide_eq_false_iff_not] at h hc;all_goals try (simp only [Option.some.injEq,Prod.mk.injEq] at h;rw [←h.1];first|exact hc|trivial)
  all_goals (split at h;· cases h)
  all_goals first
   |exact Cg hc h
   |(simp only [Option.some.injEq,Prod.mk.injEq] at h;rw [←h.1];first|exact hc|trivial)
   |cases h
 cases v<;>try (simp only [kF] at h;cases h;done)
 cases op<;>simp only [kF] at h<;>try (cases h;done)
 all_goals (simp only [Option.some.injEq,Prod.mk.injEq] at h;rw [←h.1];trivial)
end
def JG (st:St):Option Operand->Bool
 |none=>true
 |some x=>match ev st x with
  | .val (.one (.lit (.int _ i)))=>decide (0<=i)
  |_=>false
theorem dr {st:St} {x:Option Operand} {d n:Nat} {p:Prop} (hc:JG st x=true) (h:bnd st x d=some (p,n)):p:=by
 unfold bnd at h;split at h
 ·simp only [Option.some.injEq,Prod.mk.injEq] at h;rw [←h.1];trivial
 rename_i y;simp only [JG] at hc;split at h<;>try (cases h;done)
 rename_i he;rw [he] at hc;simp only [Option.some.injEq,Prod.mk.injEq] at h;rw [←h.1];exact of_decide_eq_true hc
def AJ (place:Nat->Option (Nat×Nat)):List C->List (Nat×AV)->Bool
 |_,[]=>true
 |cs,(i,x)::rest=>match place i,nc x with
  |some (off,size),some ds=>Nat.beq ds.length size&&(decide (off+size<=cs.length)&&AJ place (spl cs off ds) rest)
  |_,_=>false
theorem rk {place:Nat->Option (Nat×Nat)}:∀{parts:List (Nat×AV)} {cs r:List C} {p:Prop},AJ place cs parts=true->j6 place cs parts=some (p,r)->p
 |[],cs,r,p,_,h=>by
  simp only [j6,Option.some.injEq,Prod.mk.injEq] at h;rw [←h.1];trivial
 |(i,x)::rest,cs,r,p,hc,h=>by
  simp only [j6] at h;simp only [AJ] at hc;split at h<;>try (cases h;done)
  rename_i off size ds h1 h2;rw [h1,h2] at hc;simp only [Bool.and_eq_true,decide_eq_true_eq] at hc;split at h<;>try (cases h;done)
  rename_i q r' h3;simp only [Option.some.injEq,Prod.mk.injEq] at h;rw [←h.1];exact ⟨⟨Nat.eq_of_beq_eq_true hc.1,hc.2.1⟩,rk hc.2.2 h3⟩
def Ch (P:Program) (eqT:TypeId->List Value->List Value->Bool) (st:St):Op->Bool
 | .move _=>true
 | .assign _=>true
 | .pick .. =>true
 | .field xt x f=>match ev st x,foT P xt f with
  | .val (.agg cs),some (o,ft)=>match ldT P ft with
   |some (ag,sz)=>decide (o+sz<=cs.length)&&(ag||Nat.beq sz 1)
   |none=>false
  |_,_=>false
 | .extract .. =>true
 | .binOp op t x y _=>match ev st x,ev st y with
  | .val (.one (.lit u)),.val (.one (.lit v))=>Cf P op t u v
  | .val (.agg xs),.val (.agg ys)=>match zn xs,zn ys with
   |some us,some vs=>eqT t us vs
   |_,_=>false
  |_,_=>false
 | .unOp .not _ _=>true
 | .unOp .neg _ x=>match ev st x with
  | .val (.one (.lit (.int k n)))=> !(FV k)||inB (0-n)
  |_=>false
 | .convert s d x=>match ev st x,P.underlying d with
  | .val (.one (.lit (.int _ n))),some (.int k)=>(!(FV k)||inB n)&&(P.underlying s).isSome
  |_,_=>false
 | .index t x ix=>match ev st x,ev st ix with
  | .val (.one (.lit (.string s))),.val (.one (.lit (.int _ i)))=>AI P t&&(decide (0<=i)&&decide (i<s.size))
  | .val (.agg cs),.val (.one (.lit (.int _ i)))=>match arT P t with
   |some (n,e,sz)=>match ldT P e with
    |some (ag,sz')=>decide (0<=i)&&(decide (i<n)&&(Nat.beq sz' sz&&(decide (i.toNat*sz+sz<=cs.length)&&(ag||Nat.beq sz 1))))
    |none=>false
   |none=>false
  |_,_=>false
 | .slice t x lo hi none=>match ev st x with
  | .val (.one (.sh sz n _))=>match elT P t,bnd st lo 0,bnd st hi n with
   |some (_,sz',_),some (_,l),some (_,h)=>Nat.beq sz sz'&&(JG st lo&&(JG st hi&&(decide (l<=h)&&decide (h<=n))))
   |_,_,_=>false
  | .val (.one (.lit (.string s)))=>match bnd st lo 0,bnd st hi s.size with
   |some (_,l),some (_,h)=>AI P t&&(JG st lo&&(JG st hi&&(decide (l<=h)&&decide (h<=s.size))))
   |_,_=>false
  |_=>false
 |_=>false
section
variable {P : Program} {eqT : TypeId → List Value → List Value → Bool} {st : St} {p : Prop} {x : AV}
theorem Bu (heq:∀t us vs,eqT t us vs=true->zg P t us vs) {op:Op} (hc:Ch P eqT st op=true) (h:jl P st op=some (p,x)):p:=by
 cases op<;>simp only [Ch,jl,reduceCtorEq] at hc h;case move=>simp only [Option.some.injEq,Prod.mk.injEq] at h;rw [←h.1];trivial
 case assign=>simp only [Option.some.injEq,Prod.mk.injEq] at h;rw [←h.1];trivial
 case pick=>
  split at h<;>try (cases h;done)
  simp only [Option.some.injEq,Prod.mk.injEq] at h;rw [←h.1];trivial
 case field xt y f=>
  split at h<;>try (cases h;done)
  rename_i h1 h2;rw [h1,h2] at hc;split at h<;>try (cases h;done)
  rename_i h3;simp only [h3,Bool.and_eq_true,decide_eq_true_eq] at hc;simp only [Option.some.injEq,Prod.mk.injEq] at h;rw [←h.1];exact ⟨hc.1,C0 hc.2⟩
 case extract=>
  split at h<;>try (cases h;done)
  split at h<;>try (cases h;done)
  simp only [Option.some.injEq,Prod.mk.injEq] at h;rw [←h.1];trivial
 case binOp op t y z yt=>
  split at h<;>try (cases h;done)
  ·rename_i u v h1 h2;rw [h1,h2] at hc;split at h<;>try (cases h;done)
   rename_i q r h3;simp only [Option.some.injEq,Prod.mk.injEq] at h;rw [←h.1];exact C3 hc h3
  rename_i xs ys h1 h2;rw [h1,h2] at hc;split at h<;>try (cases h;done)
  rename_i us vs h3 h4;simp only [h3,h4] at hc;split at h<;>try (cases h;done)
  ·simp only [Option.some.injEq,Prod.mk.injEq] at h;rw [←h.1];exact heq _ _ _ hc
  simp only [Option.some.injEq,Prod.mk.injEq] at h;rw [←h.1];exact heq _ _ _ hc
 case unOp op t y=>
  cases op<;>simp only [reduceCtorEq] at hc h
  ·split at h<;>try (cases h;done)
   rename_i h1;rw [h1] at hc;exact Cg hc h
  split at h<;>try (cases h;done)
  simp only [Option.some.injEq,Prod.mk.injEq] at h;rw [←h.1];trivial
 case convert s d y=>
  split at h<;>try (cases h;done)
  rename_i k0 n k h1 h2;rw [h1,h2] at hc;simp only [Bool.and_eq_true] at hc;split at h
  ·rename_i hk;subst hk;simp only [Option.some.injEq,Prod.mk.injEq] at h;rw [←h.1];exact ⟨CZ (by simpa [FV] using hc.1),hc.2⟩
  simp only [Option.some.injEq,Prod.mk.injEq] at h;rw [←h.1];exact hc.2
 case index t y ix=>
  split at h<;>try (cases h;done)
  ·rename_i h1 h2;rw [h1,h2] at hc;simp only [Bool.and_eq_true,decide_eq_true_eq] at hc;simp only [Option.some.injEq,Prod.mk.injEq] at h;rw [←h.1];exact ⟨q9 hc.1,hc.2.1,hc.2.2⟩
  rename_i h1 h2;rw [h1,h2] at hc;split at h<;>try (cases h;done)
  rename_i h3;split at h<;>try (cases h;done)
  rename_i h4;simp only [h3,h4,Bool.and_eq_true,decide_eq_true_eq] at hc;simp only [Option.some.injEq,Prod.mk.injEq] at h;rw [←h.1];exact ⟨hc.1,hc.2.1,Nat.eq_of_beq_eq_true hc.2.2.1,hc.2.2.2.1,C0 hc.2.2.2.2⟩
 case slice t y lo hi mx=>
  cases mx<;>simp only [reduceCtorEq] at hc h;split at h<;>try (cases h;done)
  ·rename_i h1;rw [h1] at hc;split at h<;>try (cases h;done)
   rename_i h2 h3 h4;simp only [h2,h3,h4,Bool.and_eq_true,decide_eq_true_eq] at hc;simp only [Option.some.injEq,Prod.mk.injEq] at h;rw [←h.1];exact ⟨Nat.eq_of_beq_eq_true hc.1,dr hc.2.1 h3,dr hc.2.2.1 h4,hc.2.2.2.1,hc.2.2.2.2⟩
  rename_i h1;rw [h1] at hc;split at h<;>try (cases h;done)
  rename_i h3 h4;simp only [h3,h4,Bool.and_eq_true,decide_eq_true_eq] at hc;simp only [Option.some.injEq,Prod.mk.injEq] at h;rw [←h.1];exact ⟨q9 hc.1,dr hc.2.1 h3,dr hc.2.2.1 h4,hc.2.2.2.1,hc.2.2.2.2⟩
end
def C4 (P:Program) (st:St) (c:Call):Bool:=match c.args.toList,c.argTypes.toList with
 |[x],[t]=>match ev st x with
  | .val (.one (.lit (.string _)))=>AI P t
  | .val (.one (.own nm s' _ sz))=> !(Nat.beq sz 0)&&AH st nm s'
  |_=>true
 |_,_=>false
def ckB (P:Program) (eqT:TypeId->List Value->List Value->Bool) (st:St) (op:Op):Bool:=match op with
 | .build t parts=>match zrT P t,plT P t with
  |some zs,some ps=>AJ (fun i=>ps[i]?) (zs.map .lit) (parts.toList.map fun q=>(q.1,ev st q.2))
  |_,_=>false
 | .lookup .. =>false
 | .slice t x lo hi none=>(match ev st x with
  | .val (.one (.lit (.slice none 0 0)))=>match bnd st lo 0,bnd st hi 0 with
   |some (_,l),some (_,h)=>JG st lo&&(JG st hi&&(Nat.beq l 0&&Nat.beq h 0))
   |_,_=>false
  |_=>Ch P eqT st (.slice t x lo hi none))
 | .call {callee:= .builtin .cap,..}=>true
 | .call {callee:= .builtin .min,..}=>true
 | .call {callee:= .builtin .max,..}=>true
 | .call {callee:= .builtin .len,args,argTypes}=>C4 P st {callee:= .builtin .len,args,argTypes}
 | .fieldAddr s x f=>qL P st (.fieldAddr s x f)
 | .indexAddr t x i=>qL P st (.indexAddr t x i)
 | .load t x=>qL P st (.load t x)
 | .nilCheck x=>qL P st (.nilCheck x)
 |op=>Ch P eqT st op
section
variable {P : Program} {eqT : TypeId → List Value → List Value → Bool} {st : St} {p : Prop} {x : AV}
theorem C5 {args:Array Operand} {argTypes:Array TypeId} (hc:C4 P st {callee:= .builtin .len,args,argTypes}=true) (h:io P st {callee:= .builtin .len,args,argTypes}=some (p,x)):p:=by
 simp only [io] at h;simp only [C4] at hc;split at h<;>try (cases h;done)
 rename_i y t h1 h2;simp only [h1,h2] at hc;split at h
 ·rename_i h3;rw [h3] at hc;simp only [Option.some.injEq,Prod.mk.injEq] at h;rw [←h.1];exact q9 hc
 split at h<;>try (cases h;done)
 simp only [Option.some.injEq,Prod.mk.injEq] at h;rw [←h.1];split
 ·rename_i h3;rw [h3] at hc;simp only [Bool.and_eq_true,Bool.not_eq_true'] at hc;refine ⟨fun h0=>?_,Jt hc.2⟩;subst h0;exact absurd hc.1 (by decide)
 trivial
theorem DZ (heq:∀t us vs,eqT t us vs=true->zg P t us vs) {op:Op} (hc:ckB P eqT st op=true) (h:d8 P st op=some (p,x)):p:=by
 unfold d8 at h;split at h
 ·unfold gx at h;simp only [ckB] at hc;split at h<;>try (cases h;done)
  rename_i h1 h2;simp only [h1,h2] at hc;split at h<;>try (cases h;done)
  rename_i h3;simp only [Option.some.injEq,Prod.mk.injEq] at h;rw [←h.1];exact rk hc h3
 ·simp [ckB] at hc
 ·rename_i t y lo hi;simp only [ckB] at hc;unfold orS at h;split at h
  ·rename_i r hn;obtain rfl:=Option.some.inj h;unfold jp at hn;split at hn<;>try (cases hn;done)
   rename_i h1 h2 h3 h4;simp only [h1,h3,h4,Bool.and_eq_true] at hc;simp only [Option.some.injEq,Prod.mk.injEq] at hn;rw [←hn.1];exact ⟨dr hc.1 h3,dr hc.2.1 h4,Nat.eq_of_beq_eq_true hc.2.2.1,Nat.eq_of_beq_eq_true hc.2.2.2⟩
  have h':jl P st (.slice t y lo hi none)=some (p,x):=h;split at hc
  ·rename_i he;simp only [jl,he] at h';cases h'
  exact Bu heq hc h'
 ·unfold jn at h;split at h<;>try (cases h;done)
  split at h<;>try (cases h;done)
  simp only [Option.some.injEq,Prod.mk.injEq] at h;rw [←h.1];trivial
 ·unfold jo at h;split at h<;>try (cases h;done)
  split at h<;>try (cases h;done)
  simp only [Option.some.injEq,Prod.mk.injEq] at h;rw [←h.1];trivial
 ·unfold jo at h;split at h<;>try (cases h;done)
  split at h<;>try (cases h;done)
  simp only [Option.some.injEq,Prod.mk.injEq] at h;rw [←h.1];trivial
 rename_i h1 h2 h3 h4 h5 h6;cases op with
 |call c=>
  obtain ⟨callee,args,argTypes⟩:=c;have h0:=h;simp only [og,io] at h0;split at h0<;>try (cases h0;done)
  exact C5 hc h
 |build t ps=>exact (h1 t ps rfl).elim
 |lookup t m k ok=>exact (h2 t m k ok rfl).elim
 |slice t y lo hi mx=>
  cases mx with
  |none=>exact (h3 t y lo hi rfl).elim
  |some mx=>
   simp only [og,jl,reduceCtorEq] at h
 |_=>
  simp only [ckB] at hc;simp only [og] at h;first
   |exact CB hc h
   |exact Bu heq hc h
end
def AX:AV->Option (Nat×Nat×Nat×Nat×Nat)
 | .val (.one (.own nm s n sz))=>some (nm,s,0,n,sz)
 | .val (.one (.vw nm s off n sz))=>some (nm,s,off,n,sz)
 |_=>none
section
variable {P : Program} {e : En} {k0 : Kx} {N : Nat} {st : St} {a : Act} {w : World} {σ : Nat → Value} {o : Oper} {x : AV}
theorem JP (hW:RW e st.H st.nx σ w) {v:Value} {y:AV} {nm s off n sz:Nat} (hv:aG (kx e st.H st.nx σ w) v y) (hy:AX y=some (nm,s,off,n,sz)) {B:Blk} (hB:st.H nm=some B) (hs:B.st=s) (hsz:sz≠0):
  ∃ad cap xs,v= .slice ad n cap/\n<=cap/\cap<=maxLen/\B.sz=sz/\off+n<=B.n/\(off=0->σ nm= .slice ad B.n cap)/\(n=0∨∃b,(σ nm).ownBlock=some b/\ad=some ⟨b,off*sz,none⟩)/\
   B.cs.length=B.n*B.sz/\w.ownsRow e.w0.heap.size B.E B.sz (σ nm) B.n xs/\denVs (kx e st.H st.nx σ w) xs B.cs/\(ad=none->cap=0):=by
 have row:B.sz=sz->∃ad cap xs,σ nm= .slice ad B.n cap/\B.n<=cap/\cap<=maxLen/\(B.n=0∨∃b,(σ nm).ownBlock=some b/\ad=some ⟨b,0,none⟩)/\B.cs.length=B.n*B.sz/\w.ownsRow e.w0.heap.size B.E B.sz (σ nm) B.n xs/\denVs (kx e st.H st.nx σ w) xs B.cs/\(ad=none->cap=0):=fun hz=>by
  obtain ⟨_,h2,xs,h3,h4⟩:=hW.rowOf hB (.inl (by rw [hz];exact hsz));rcases h3.2 with ⟨q1,q2⟩|⟨g,cap,cur,q1,q2,q3,q4,q5,q6,q7⟩
  ·exact ⟨none,0,xs,by rw [q2];exact q1,by omega,by unfold maxLen;omega,.inl q2,h2,h3,h4,fun _=>rfl⟩
  exact ⟨_,cap,xs,q1,q4,q5,.inr ⟨g,by rw [q1];rfl,rfl⟩,h2,h3,h4,fun h=>by cases h⟩
 unfold AX at hy;split at hy<;>try (cases hy;done)
 ·simp only [Option.some.injEq,Prod.mk.injEq] at hy;obtain ⟨rfl,rfl,rfl,rfl,rfl⟩:=hy;simp only [aG,bb,den] at hv;obtain ⟨h1,h2,h3⟩:=hv.2.2 B hB hs;obtain ⟨ad,cap,xs,r1,r2,r3,r4,r5⟩:=row h3;subst h2;exact ⟨ad,cap,xs,h1.trans r1,r2,r3,h3,by omega,fun _=>r1,by simpa using r4,r5⟩
 simp only [Option.some.injEq,Prod.mk.injEq] at hy;obtain ⟨rfl,rfl,rfl,rfl,rfl⟩:=hy;simp only [aG,bb,den] at hv;obtain ⟨ad,cap,h1,h2,h3,h6,h4,h5⟩:=hv;obtain ⟨k1,k2,k3⟩:=h5 B hB hs;obtain ⟨ad',cap',xs,r1,r2,r3,r4,r5⟩:=row k1;rcases k3 with ⟨k3,k4⟩|⟨k3,k4⟩
 ·subst k3;have k4':σ _= .slice ad B.n cap:=k4;rw [r1] at k4';simp only [Value.slice.injEq,true_and] at k4';obtain ⟨rfl,rfl⟩:=k4';refine ⟨_,_,xs,h1,h2,h3,k1,k2,fun _=>r1,?_,r5⟩;rcases r4 with r4|⟨b,q1,q2⟩
  ·exact .inl (by omega)
  exact .inr ⟨b,q1,by simpa using q2⟩
 exact ⟨ad,cap,xs,h1,h2,h3,k1,k2,fun h=>(k3 h).elim,k4,r5.1,r5.2.1,r5.2.2.1,h6⟩
end
def shs:List A1->List (Option Nat)
 |[]=>[]
 | .one _::l=>none::shs l
 | .agg cs::l=>some cs.length::shs l
def css:List A1->List C
 |[]=>[]
 | .one c::l=>c::css l
 | .agg cs::l=>cs++css l
def CC:List (Option Nat)->List C->List A1
 |none::s,c::cs=> .one c::CC s cs
 |some k::s,cs=> .agg (cs.take k)::CC s (cs.drop k)
 |_,_=>[]
theorem BO {κ:Kx}:∀{l:List A1} {vs:List Value},cz κ vs l->∃us,shp (shs l) vs us/\denVs κ us (css l)
 |[],[],_=>⟨[],rfl,trivial⟩
 |[],_::_,h=>h.elim
 |_::_,[],h=>h.elim
 | .one c::l,v::vs,h=>by
  obtain ⟨us,h1,h2⟩:=BO h.2;exact ⟨v::us,⟨us,rfl,h1⟩,h.1,h2⟩
 | .agg cs::l,v::vs,h=>by
  obtain ⟨us,h1,h2⟩:=BO h.2;obtain ⟨xs,h3,h4⟩:=h.1;exact ⟨xs++us,⟨xs,us,h3,h4.length,rfl,h1⟩,h4.append h2⟩
theorem Be {κ:Kx}:∀{sh:List (Option Nat)} {vs us:List Value} {cs:List C},shp sh vs us->denVs κ us cs->cz κ vs (CC sh cs)
 |[],[],us,cs,_,_=>by simp [CC,cz]
 |[],_::_,_,_,h,_=>h.elim
 |none::_,[],_,_,h,_=>h.elim
 |some _::_,[],_,_,h,_=>h.elim
 |none::s,v::vs,us,cs,h,hd=>by
  obtain ⟨us',rfl,h1⟩:=h;cases cs with
  |nil=>exact hd.elim
  |cons c cs=>exact ⟨hd.1,Be h1 hd.2⟩
 |some k::s,v::vs,us,cs,h,hd=>by
  obtain ⟨l,us',h1,h2,rfl,h3⟩:=h;have e1:(l++us').take k=l:=List.take_left' h2;have e2:(l++us').drop k=us':=List.drop_left' h2;have d1:=hd.take k;have d2:=hd.drop k;rw [e1] at d1;rw [e2] at d2;simp only [CC];exact ⟨⟨l,h1,d1⟩,Be h3 d2⟩
def Dq (st:St) (x:Operand):Option Bool:=match ev st x with
 | .val (.one (.lit (.slice none 0 0)))=>some true
 | .val (.one (.sh _ n _))=>if Nat.beq n 0 then none else some false
 | .val (.one (.own nm s n sz))=>if Nat.beq n 0||Nat.beq sz 0|| !(AH st nm s) then none else some false
 | .val (.one (.vw nm s _ n sz))=>if Nat.beq n 0||Nat.beq sz 0|| !(AH st nm s) then none else some false
 |_=>none
theorem Ci {e:En} {st:St} {a:Act} {w:World} {σ:Nat->Value} (hW:RW e st.H st.nx σ w) (ht:∀t,aG (kx e st.H st.nx σ w) (a.tmps.getD t undef) (st.tm t)) {x:Operand} {b:Bool} (h:Dq st x=some b):
  ∃ad n c,a.eval x= .slice ad n c/\ad.isNone=b:=by
 have hx:=bc ht x;unfold Dq at h;split at h<;>try (cases h;done)
 ·rename_i he;rw [he] at hx;simp only [aG,bb,den] at hx;obtain rfl:=Option.some.inj h;exact ⟨none,0,0,hx.1,rfl⟩
 ·rename_i sz n cs he;rw [he] at hx;split at h<;>try (cases h;done)
  rename_i hn;obtain rfl:=Option.some.inj h;simp only [aG,bb,den] at hx;obtain ⟨ad,cap,h1,h2,h3,h4,_⟩:=hx;refine ⟨ad,n,cap,h1,?_⟩;cases ad with
  |none=>
   have:=h4 rfl;have:n=0:=by omega
   subst this;exact absurd rfl hn
  |some _=>rfl
 all_goals
  rename_i he;rw [he] at hx;split at h<;>try (cases h;done)
  rename_i hn;obtain rfl:=Option.some.inj h;simp only [Bool.or_eq_true,Bool.not_eq_true',not_or,Bool.not_eq_true,Bool.not_eq_false] at hn;obtain ⟨⟨hn1,hn2⟩,hn3⟩:=hn;obtain ⟨B,hB,hs⟩:=Jt hn3;have hsz:∀z:Nat,Nat.beq z 0=false->z≠0:=fun z hz h0=>by subst h0;cases hz
  obtain ⟨ad,cap,xs,h1,_,_,_,_,_,h7,_⟩:=JP hW hx rfl hB hs (hsz _ hn2);refine ⟨ad,_,cap,h1,?_⟩;obtain ⟨b,_,h8⟩:=h7.resolve_left (hsz _ hn1);rw [h8];rfl
def BP (P:Program) (st:St):Op->Option AV
 | .indexAddr t x ix=>match ev st x,ev st ix,elT P t with
  | .val (.one (.vw nm s off n sz)),.val (.one (.lit (.int _ i))),some (_,sz',_)=>
   if Nat.beq sz sz'&&(!(Nat.beq sz 0)&&(decide (0<=i)&&(decide (i<n)&&AH st nm s))) then some (.val (.one (.ptr nm s ((off+i.toNat)*sz)))) else none
  |_,_,_=>none
 | .slice t x lo hi none=>match AX (ev st x),elT P t with
  |some (nm,s,off,n,sz),some (_,sz',_)=>match bnd st lo 0,bnd st hi n with
   |some (_,l),some (_,h)=>if Nat.beq sz sz'&&(!(Nat.beq sz 0)&&(JG st lo&&(JG st hi&&(decide (l<=h)&&(decide (h<=n)&&AH st nm s))))) then some (.val (.one (.vw nm s (off+l) (h-l) sz))) else none
   |_,_=>none
  |_,_=>none
 | .makeFunc (.func f) first captured=>match first.toList,kP (captured.toList.map (ev st)) with
  |[],some l=>some (.val (.one (.clo f (shs l) (css l))))
  |_,_=>none
 | .binOp .eql t x (.const (.slice none 0 0)) _=>match elT P t,Dq st x with
  |some _,some b=>some (one (.bool b))
  |_,_=>none
 | .binOp .neq t x (.const (.slice none 0 0)) _=>match elT P t,Dq st x with
  |some _,some b=>some (one (.bool (!b)))
  |_,_=>none
 | .call {callee:= .builtin .len,args,argTypes}=>match args.toList,argTypes.toList with
  |[x],[t]=>match ev st x,elT P t with
   | .val (.one (.vw _ _ _ n _)),some _=>some (one (.int .i64 n))
   |_,_=>none
  |_,_=>none
 |_=>none
section
variable {P : Program} {e : En} {k0 : Kx} {N : Nat} {st : St} {a : Act} {w : World} {σ : Nat → Value} {o : Oper} {x : AV}
theorem A3 {t E:TypeId} {ad:Option Addr} {n c:Nat} (hu:P.underlying t=some (.slice E)) (w:World):(Op.equal t (.slice ad n c) (.slice none 0 0)).run P w= .ok ad.isNone w:=run_equal_slice_nil (P:=P) w t E ad n c hu
theorem Av {z:Nat} (h:Nat.beq z 0=false):z≠0:=fun h0=>by subst h0;cases h
theorem CD (hW:RW e st.H st.nx σ w) (ht:∀t,aG (kx e st.H st.nx σ w) (a.tmps.getD t undef) (st.tm t)) (h:BP P st o.op=some x):Yl P o a w (kx e st.H st.nx σ w) x:=by
 generalize hop:o.op=op at h;unfold BP at h;split at h<;>try (cases h;done)
 ·rename_i t y ix;have hy:=bc ht y;have hx:=bc ht ix;split at h<;>try (cases h;done)
  rename_i nm s off n sz k i E sz' by_ h1 h2 h3;split at h<;>try (cases h;done)
  rename_i hc;obtain rfl:=Option.some.inj h;simp only [Bool.and_eq_true,Bool.not_eq_true',decide_eq_true_eq] at hc;obtain ⟨c1,c2,c3,c4,c5⟩:=hc;have c1:=Nat.eq_of_beq_eq_true c1;subst c1;obtain ⟨B,hB,hs⟩:=Jt c5;rw [h1] at hy;rw [h2] at hx;simp only [aG,bb,den] at hx;obtain ⟨ad,cap,xs,k1,k2,k3,k4,k5,k6,k7,_⟩:=JP hW hy rfl hB hs (Av c2);obtain ⟨b,q1,q2⟩:=k7.resolve_left (by omega);subst q2;have hlt:s<st.nx:=hs▸(hW.blk nm B hB).1;refine ⟨.pointer (some ⟨b,off*sz+i.toNat*sz,none⟩),fun w' _=>?_,?_⟩
  ·simp only [execOp,hop,k1,hx.1,Sem.run_bind,j5 h3 k i b (off*sz) n cap c3 c4 w',Result.andThen_ok,Sem.run_pure]
  simp only [aG,bb,den];refine ⟨rfl,hlt,fun B' hB' _=>⟨b,q1,?_⟩⟩;rw [Nat.add_mul]
 ·rename_i t y lo hi;have hy:=bc ht y;split at h<;>try (cases h;done)
  rename_i nm s off n sz E sz' by_ h1 h2;split at h<;>try (cases h;done)
  rename_i p1 l p2 hh hb1 hb2;split at h<;>try (cases h;done)
  rename_i hc;obtain rfl:=Option.some.inj h;simp only [Bool.and_eq_true,Bool.not_eq_true',decide_eq_true_eq] at hc;obtain ⟨c1,c2,c3,c4,c5,c6,c7⟩:=hc;have c1:=Nat.eq_of_beq_eq_true c1;subst c1;obtain ⟨B,hB,hs⟩:=Jt c7;have hp1:=dr c3 hb1;have hp2:=dr c4 hb2;obtain ⟨ad,cap,xs,k1,k2,k3,k4,k5,k6,k7,_,_,_,k11⟩:=JP hW hy h1 hB hs (Av c2);obtain ⟨g1,j,g2,g3,_⟩:=dZ h2;have hlt:s<st.nx:=hs▸(hW.blk nm B hB).1;have e1:∀w',(Instr.sliceBounds true n cap (lo.map a.eval) (hi.map a.eval) none).run P w'= .ok (l,hh,cap) w':=fun w'=>by
   have f2:(0:Int)<=(hh:Int)/\(hh:Int)<=(cap:Int):=⟨by omega,by omega⟩;have f1:(0:Int)<=(l:Int)/\(l:Int)<=(hh:Int):=⟨by omega,by omega⟩;rcases jG ht hb1 hp1 with ⟨rfl,rfl⟩|⟨z1,k1,rfl,q1⟩<;>rcases jG ht hb2 hp2 with ⟨rfl,rfl⟩|⟨z2,k2,rfl,q2⟩
   ·simp [Instr.sliceBounds]
   ·simp only [Instr.sliceBounds,Option.map_some,Option.map_none,q2,Instr.sliceBound,asIntOf,Sem.run_bind,Sem.run_pure,Result.andThen_ok,Sem.run_ite,if_pos f2,Int.toNat_natCast]
   ·simp only [Instr.sliceBounds,Option.map_some,Option.map_none,q1,Instr.sliceBound,asIntOf,Sem.run_bind,Sem.run_pure,Result.andThen_ok,Sem.run_ite,if_pos f1,Int.toNat_natCast]
   simp only [Instr.sliceBounds,Option.map_some,q1,q2,Instr.sliceBound,asIntOf,Sem.run_bind,Sem.run_pure,Result.andThen_ok,Sem.run_ite,if_pos f1,if_pos f2,Int.toNat_natCast]
  refine ⟨.slice (if cap=l then ad else ad.map (·.add (l*sz))) (hh-l) (cap-l),fun w' _=>?_,?_⟩
  ·simp only [execOp,hop,k1,Sem.run_bind,Instr.sliceAt,run_underlying g1,Result.andThen_ok,Instr.slice,e1 w',sizeOf,typeInfo,run_program,g2,g3,Sem.run_pure,Option.map_none]
  simp only [aG,bb,den];refine ⟨_,_,rfl,by omega,by omega,fun hnone=>?_,hlt,fun B' hB' _=>?_⟩
  ·split at hnone
   ·omega
   cases ad with
   |none=>have:=k11 rfl;omega
   |some q=>simp at hnone
  have hBB:st.H nm=some B':=hB';rw [hB] at hBB;cases hBB;refine ⟨k4,by omega,?_⟩;by_cases h0:off+l=0
  ·have hl:l=0:=by omega
   have ho:off=0:=by omega
   subst hl;subst ho;refine .inl ⟨rfl,?_⟩;have e2:(if cap=0 then ad else ad.map (·.add (0*sz)))=ad:=by
    split
    ·rfl
    cases ad with
    |none=>rfl
    |some q=>simp [Addr.add]
   rw [e2,Nat.sub_zero];exact k6 rfl
  refine .inr ⟨h0,?_⟩;by_cases hz:hh-l=0
  ·exact .inl hz
  obtain ⟨b,q1,q2⟩:=k7.resolve_left (by omega);refine .inr ⟨b,q1,?_⟩;rw [if_neg (by omega),q2];simp [add_lit,Nat.add_mul]
 ·rename_i f first captured
  split at h<;>try (cases h;done)
  rename_i l h1 h2;obtain rfl:=Option.some.inj h;have hr:=rA (κ:=kx e st.H st.nx σ w) (vs:=captured.toList.map a.eval) (by
   refine ⟨by simp,fun i h h'=>?_⟩;simp only [List.getElem_map];exact bc ht _) h2
  obtain ⟨us,g1,g2⟩:=BO hr;have hf:first= #[]:=Array.toList_inj.1 h1
  refine ⟨.func (.func f) #[] (captured.toList.map a.eval).toArray,fun w' _=>?_,?_⟩
  ·have e1:Array.map a.eval captured=(List.map a.eval captured.toList).toArray:=by rw [←Array.toList_map,Array.toArray_toList]
   simp [execOp,hop,Instr.makeFunc,hf];exact e1
  simp only [aG,bb,den];exact ⟨_,us,rfl,g1,JJ.2 g2⟩
 ·rename_i t y yt;split at h<;>try (cases h;done)
  rename_i el b h1 h2;obtain rfl:=Option.some.inj h;obtain ⟨ad,n,c,k1,rfl⟩:=Ci hW ht h2;obtain ⟨E,sz,by_⟩:=el;refine ⟨.bool ad.isNone,fun w' _=>?_,by simp only [aG,bb,den];exact ⟨trivial,rfl⟩⟩;have he:=A3 (P:=P) (ad:=ad) (n:=n) (c:=c) (dZ h1).1 w';have e1:a.eval (.const (.slice none 0 0))= .slice none 0 0:=rfl;simp only [execOp,hop];rw [k1,e1,eqGuard_at_slice];simp [binOp,he]
 ·rename_i t y yt;split at h<;>try (cases h;done)
  rename_i el b h1 h2;obtain rfl:=Option.some.inj h;obtain ⟨ad,n,c,k1,rfl⟩:=Ci hW ht h2;obtain ⟨E,sz,by_⟩:=el;refine ⟨.bool (!ad.isNone),fun w' _=>?_,by simp only [aG,bb,den];exact ⟨trivial,rfl⟩⟩;have he:=A3 (P:=P) (ad:=ad) (n:=n) (c:=c) (dZ h1).1 w';have e1:a.eval (.const (.slice none 0 0))= .slice none 0 0:=rfl;simp only [execOp,hop];rw [k1,e1,eqGuard_at_slice];simp [binOp,he]
 rename_i args argTypes;split at h<;>try (cases h;done)
 rename_i y t hargs htys;have ha:args= #[y]:=Array.toList_inj.1 hargs;have hty:argTypes= #[t]:=Array.toList_inj.1 htys;subst ha hty;have hy:=bc ht y;split at h<;>try (cases h;done)
 rename_i nm s off n sz el h1 h2;obtain rfl:=Option.some.inj h;rw [h1] at hy;simp only [aG,bb,den] at hy;obtain ⟨ad,cap,k1,_⟩:=hy;obtain ⟨E,sz',by_⟩:=el;refine ⟨.int .i64 n,fun w' _=>?_,by simp only [aG,bb,den];exact ⟨trivial,rfl⟩⟩;simp [execOp,hop,resolve,invoke,builtin,k1,Builtin.len_,run_underlying (dZ h2).1,goInt]
def BQ (P:Program) (eqT:TypeId->List Value->List Value->Bool) (st:St) (op:Op):Option AV:=match BP P st op with
 |some x=>some x
 |none=>bif ckB P eqT st op then (d8 P st op).map (·.2) else none
theorem CE {eqT:TypeId->List Value->List Value->Bool} (heq:∀t us vs,eqT t us vs=true->zg P t us vs) (hW:RW e st.H st.nx σ w) (ht:∀t,aG (kx e st.H st.nx σ w) (a.tmps.getD t undef) (st.tm t)) (h:BQ P eqT st o.op=some x):Yl P o a w (kx e st.H st.nx σ w) x:=by
 unfold BQ at h;split at h
 ·rename_i y hy;obtain rfl:=Option.some.inj h;exact CD hW ht hy
 cases hc:ckB P eqT st o.op with
 |false=>rw [hc] at h;cases h
 |true=>
  rw [hc] at h;simp only [cond_true,Option.map_eq_some_iff] at h;obtain ⟨⟨p,y⟩,h1,rfl⟩:=h;exact jK hW ht h1 (DZ heq hc h1)
end
def D3 (st:St) (sz:Nat) (x:AV):Option (Nat×List C):=match x with
 | .val (.one (.lit (.slice none 0 0)))=>some (0,[])
 | .val (.one (.sh sz' n cs))=>if Nat.beq sz' sz then some (n,cs) else none
 |x=>match AX x with
  |some (nm,s,off,n,sz')=>match st.H nm with
   |some B=>if Nat.beq sz' sz&&(!(Nat.beq sz 0)&&Nat.beq B.st s) then some (n,(B.cs.drop (off*sz)).take (n*sz)) else none
   |none=>none
  |none=>none
def D4 (st:St) (sz:Nat) (E:TypeId) (x:AV):Option (Option Nat×Nat×List C):=match x with
 | .val (.one (.lit (.slice none 0 0)))=>some (none,0,[])
 |x=>match AX x with
  |some (nm,s,off,n,sz')=>match st.H nm with
   |some B=>if Nat.beq off 0&&(Nat.beq sz' sz&&(!(Nat.beq sz 0)&&(Nat.beq B.st s&&Nat.beq B.E E))) then some (some nm,n,B.cs.take (n*sz)) else none
   |none=>none
  |none=>none
section
variable {P : Program} {e : En} {k0 : Kx} {N : Nat} {st : St} {a : Act} {w : World} {σ : Nat → Value} {o : Oper} {x : AV}
theorem Dr (hW:RW e st.H st.nx σ w) {v:Value} {y:AV} (hy:aG (kx e st.H st.nx σ w) v y) {sz m:Nat} {ns:List C} (h:D3 st sz y=some (m,ns)):
  ∃ad c news,v= .slice ad m c/\denVs (kx e st.H st.nx σ w) news ns/\ns.length=m*sz/\m<=maxLen/\(m=0∨∃b off,ad=some ⟨b,off,none⟩/\∀j u,news[j]? =some u->w.cell? ⟨b,off+j,none⟩=some u):=by
 unfold D3 at h;split at h
 ·simp only [Option.some.injEq,Prod.mk.injEq] at h;obtain ⟨rfl,rfl⟩:=h;simp only [aG,bb,den] at hy;exact ⟨none,0,[],hy.1,trivial,by simp,by unfold maxLen;omega,.inl rfl⟩
 ·rename_i sz' n cs;split at h<;>try (cases h;done)
  rename_i hc;simp only [Option.some.injEq,Prod.mk.injEq] at h;obtain ⟨rfl,rfl⟩:=h;have hc:=Nat.eq_of_beq_eq_true hc;subst hc;exact ro (κ:=kx e st.H st.nx σ w) hW hy (by rfl) trivial
 split at h<;>try (cases h;done)
 rename_i nm s off n sz' hv;split at h<;>try (cases h;done)
 rename_i B hB;split at h<;>try (cases h;done)
 rename_i hc;simp only [Option.some.injEq,Prod.mk.injEq] at h;obtain ⟨rfl,rfl⟩:=h;simp only [Bool.and_eq_true,Bool.not_eq_true'] at hc;have hc1:=Nat.eq_of_beq_eq_true hc.1;subst hc1;obtain ⟨ad,cap,xs,k1,k2,k3,k4,k5,k6,k7,k8,k9,k10,k11⟩:=JP hW hy hv hB (Nat.eq_of_beq_eq_true hc.2.2) (Av hc.2.1);have hle:off*sz'+n*sz'<=B.n*sz':=by rw [←Nat.add_mul];exact Nat.mul_le_mul_right _ k5
 have hd:=(k10.drop (off*sz')).take (n*sz');refine ⟨ad,cap,_,k1,hd,by rw [List.length_take,List.length_drop,k8,k4];omega,by omega,?_⟩;rcases k7 with k7|⟨b,q1,q2⟩
 ·exact .inl k7
 refine .inr ⟨b,off*sz',q2,fun j u hu=>?_⟩;rw [List.getElem?_take] at hu;split at hu<;>try (cases hu;done)
 rw [List.getElem?_drop] at hu;have:=k9.cells (g:=b) q1 (off*sz'+j) u hu;rw [add_lit] at this;simpa using this
theorem Ds (hW:RW e st.H st.nx σ w) {v:Value} {y:AV} (hy:aG (kx e st.H st.nx σ w) v y) {sz n E:Nat} {cs:List C} {kill:Option Nat} (h:D4 st sz E y=some (kill,n,cs)):
  ∃xs,w.ownsRow e.w0.heap.size E sz v n xs/\denVs (kx e st.H st.nx σ w) xs cs/\cs.length=n*sz/\(∀r,v.ownBlock=some r->∃nm B,kill=some nm/\obk (σ nm)=some r/\st.H nm=some B):=by
 unfold D4 at h;split at h
 ·simp only [Option.some.injEq,Prod.mk.injEq] at h;obtain ⟨rfl,rfl,rfl⟩:=h;simp only [aG,bb,den] at hy;rw [hy.1];exact ⟨[],w.ownsRow_nil _ _ _,trivial,by simp,fun r hr=>by cases hr⟩
 split at h<;>try (cases h;done)
 rename_i nm s off n' sz' hv;split at h<;>try (cases h;done)
 rename_i B hB;split at h<;>try (cases h;done)
 rename_i hc;simp only [Option.some.injEq,Prod.mk.injEq] at h;obtain ⟨rfl,rfl,rfl⟩:=h;simp only [Bool.and_eq_true,Bool.not_eq_true'] at hc;obtain ⟨c1,c2,c3,c4,c5⟩:=hc;have c1:=Nat.eq_of_beq_eq_true c1;have c2:=Nat.eq_of_beq_eq_true c2;have c5:=Nat.eq_of_beq_eq_true c5;subst c1;subst c2;obtain ⟨ad,cap,xs,k1,k2,k3,k4,k5,k6,k7,k8,k9,k10,k11⟩:=JP hW hy hv hB (Nat.eq_of_beq_eq_true c4) (Av c3);have k6:=k6 rfl;have hml:n'*sz'<=B.n*sz':=Nat.mul_le_mul_right _ (by omega);rw [k4] at k8 k9;rw [←c5];refine ⟨xs.take (n'*sz'),?_,k10.take _,by rw [List.length_take,k8];omega,fun r hr=>⟨nm,B,rfl,?_,hB⟩⟩
 ·have hl:=k9.1;refine ⟨by rw [List.length_take];omega,?_⟩;rcases k9.2 with ⟨q1,q2⟩|⟨g,cap',cur,q1,q2,q3,q4,q5,q6,q7⟩
  ·rw [k6] at q1;simp only [Value.slice.injEq] at q1;obtain ⟨rfl,_,rfl⟩:=q1;have h0:n'=0:=by omega
   subst h0;exact .inl ⟨k1,rfl⟩
  rw [k6] at q1;simp only [Value.slice.injEq] at q1;obtain ⟨rfl,_,rfl⟩:=q1;refine .inr ⟨g,cap,cur,k1,q2,q3,k2,q5,q6,?_⟩;rw [←q7,List.take_take];congr 1;omega
 rw [k6];rw [k1] at hr;cases ad with
 |none=>simp [Value.ownBlock] at hr
 |some q=>simpa [Value.ownBlock,obk] using hr
def ES.re (s:ES) (kill:Option Nat) (d:Nat) (x:AV) (B:Blk):ES:=⟨s.tm.put d (some x),(match kill with|some nm=>s.H.put nm none|none=>s.H).put s.nx (some B),s.nx+1⟩
theorem ES.re_st (s:ES) (kill:Option Nat) (d:Nat) (x:AV) (B:Blk) (nb:Nat):(s.re kill d x B).st nb=⟨up s.tmF d x,up (up s.hF (kill.getD s.nx) none) s.nx (some B),s.nx+1,nb⟩:=by
 have h1:(s.re kill d x B).tmF=up s.tmF d x:=ES.tmF_put s d x;have h2:(s.re kill d x B).hF=up (up s.hF (kill.getD s.nx) none) s.nx (some B):=by
  cases kill with
  |none=>
   rw [Option.getD_none,mm];exact Ax s.H s.nx (some B)
  |some nm=>
   have h3:(fun n=>(s.H.put nm none).get n)=up s.hF nm none:=Ax s.H nm none;rw [Option.getD_some,←h3];exact Ax (s.H.put nm none) s.nx (some B)
 unfold ES.st;rw [h1,h2];rfl
def Bf (P:Program) (s:ES) (d:Nat) (args:Array Operand) (argTypes:Array TypeId):Option ES:=match args.toList,argTypes.toList with
 |[x,y],[t,t']=>match elT P t with
  |some (E,sz,by_)=>match zrT P E with
   |some zs=>bif Nat.beq t t'&&(Nat.beq zs.length sz&& !(Nat.beq sz 0)) then match D4 (s.st 0) sz E (ev (s.st 0) x),D3 (s.st 0) sz (ev (s.st 0) y) with
    |some (kill,n,cs),some (m,ns)=>bif decide ((n+m)*by_<=140737488355328)&&decide (n+m<=4611686018427387904) then some (s.re kill d (.val (.one (.own s.nx s.nx (n+m) sz))) ⟨s.nx,E,sz,n+m,cs++ns⟩) else none
    |_,_=>none
    else none
   |none=>none
  |none=>none
 |_,_=>none
theorem a6 {b:Bool} {α:Type} {x:Option α} {y:α} (h:(bif b then x else none)=some y):b=true/\x=some y:=by
 cases b
 ·cases h
 exact ⟨rfl,h⟩
theorem BR {s s':ES} {d:Nat} {args:Array Operand} {argTypes:Array TypeId} {K:Act->World->Prop} {Q:Exit->Act->World->Prop} (hr:Rel e k0 N (s.st 0) a w) (hdst:o.dst=some d) (hdN:d<N) (hop:o.op= .call {callee:= .builtin .append,args,argTypes})
  (h:Bf P s d args argTypes=some s') (hK:∀a' w',Rel e k0 N (s'.st 0) a' w'->K a' w'):o.wp P a w K Q:=by
 obtain ⟨σ,h1,h2,h3⟩:=hr.ex;unfold Bf at h;split at h<;>try (cases h;done)
 rename_i x y t t' hargs htys;split at h<;>try (cases h;done)
 rename_i E sz by_ hel;split at h<;>try (cases h;done)
 rename_i zs hz;replace h:=a6 h;obtain ⟨hc,h⟩:=h;simp only [Bool.and_eq_true,Bool.not_eq_true'] at hc;obtain ⟨c1,c2,c3⟩:=hc;have c1:=Nat.eq_of_beq_eq_true c1;have c2:=Nat.eq_of_beq_eq_true c2;subst c1;split at h<;>try (cases h;done)
 rename_i kill n cs m ns hd hs;replace h:=a6 h;obtain ⟨hc,h⟩:=h;obtain rfl:=Option.some.inj h;simp only [Bool.and_eq_true,decide_eq_true_eq] at hc;have hx:=bc h2 x;have hy:=bc h2 y;obtain ⟨ad,c,news,e1,e2,e3,e4,e5⟩:=Dr h1 hy hs;obtain ⟨xs,g1,g2,g3,g4⟩:=Ds h1 hx hd;obtain ⟨v',w',r1,r2,r3,r4,r5⟩:=kI (ty:=o.type) hel (by rw [hz];rfl) (fun zs' hz'=>by rw [hz] at hz';cases hz';exact c2) (Nat.pos_of_ne_zero (Av c3)) g1 (by rw [e2.length];exact e3) e5 e2.one (by unfold maxLen;omega) hc.1 h1.size;have ha:args= #[x,y]:=Array.toList_inj.1 hargs;have hty:argTypes= #[t,t]:=Array.toList_inj.1 htys;obtain ⟨k1,k2⟩:=RW.new (nm0:=kill.getD s.nx) (d:=s.nx) h1 r4 (B':=⟨s.nx,E,sz,n+m,cs++ns⟩) rfl (Av c3) (by simp only [List.length_append,g3,e3,Nat.add_mul]) (fun r hr=>by
  obtain ⟨nm,B,f1,f2,f3⟩:=g4 r hr;subst f1;exact ⟨f2,B,f3⟩) (fun r hr=>by
  rw [kp r3] at hr;rcases r5 with h5|h5
  ·obtain ⟨nm,B,f1,f2,f3⟩:=g4 r (h5▸hr);subst f1;exact .inr ⟨f2,B,f3⟩
  rw [h5] at hr;cases hr;exact .inl (Nat.le_refl _)) r3 (g2.append e2)
 refine fv (v:=v') (w':=w') ?_ ?_
 ·have r1':=r1;simp only [execOp,hop,ha,hty,resolve,Sem.run_bind,Sem.run_pure,Result.andThen_ok,invoke,builtin,List.map_toArray,List.map_cons,List.map_nil,e1];rw [r1'];rfl
 rw [hdst];refine hK _ _ ?_;rw [ES.re_st];exact hr.put k1 h2 h3 k2 (cb s.nx σ w' r2) d hdN
def BS (P:Program) (s:ES) (d:Nat) (args:Array Operand) (argTypes:Array TypeId):Option ES:=match args.toList,argTypes.toList with
 |[x,y],[t,t']=>match ev (s.st 0) x,ev (s.st 0) y,elT P t,P.underlying t' with
  | .val (.one (.lit (.slice none 0 0))),.val (.one (.lit (.int _ n))),some (E,sz,by_),some (.int _)=>match zrT P E with
   |some zs=>bif Nat.beq zs.length sz&&(!(Nat.beq sz 0)&&(decide (0<n)&&(decide (n*by_<=140737488355328)&&decide (n<=4611686018427387904)))) then some (s.re none d (.val (.one (.own s.nx s.nx n.toNat sz))) ⟨s.nx,E,sz,n.toNat,eA n.toNat (zs.map .lit)⟩) else none
   |none=>none
  |_,_,_,_=>none
 |_,_=>none
theorem CF {s s':ES} {d:Nat} {args:Array Operand} {argTypes:Array TypeId} {K:Act->World->Prop} {Q:Exit->Act->World->Prop} (hr:Rel e k0 N (s.st 0) a w) (hdst:o.dst=some d) (hdN:d<N) (hd:d<=s.nx) (hop:o.op= .call {callee:= .builtin .append,args,argTypes})
  (h:BS P s d args argTypes=some s') (hK:∀a' w',Rel e k0 N (s'.st 0) a' w'->K a' w'):o.wp P a w K Q:=by
 have hr':Rel e k0 N (s.st (s.nx-d)) a w:=hr.nb _;have hnm:(s.st (s.nx-d)).nb+d=s.nx:=by show s.nx-d+d=s.nx;omega
 unfold BS at h;split at h<;>try (cases h;done)
 rename_i x y t t' hargs htys;split at h<;>try (cases h;done)
 rename_i k n E sz by_ kn h1 h2 h3 h4;split at h<;>try (cases h;done)
 rename_i zs hz;replace h:=a6 h;obtain ⟨hc,h⟩:=h;obtain rfl:=Option.some.inj h;simp only [Bool.and_eq_true,Bool.not_eq_true',decide_eq_true_eq] at hc;have h1':ev (s.st (s.nx-d)) x= .val (.one (.lit (.slice none 0 0))):=by cases x<;>exact h1
 have h2':ev (s.st (s.nx-d)) y= .val (.one (.lit (.int k n))):=by cases y<;>exact h2
 refine t6 (p:=zs.length=sz/\sz≠0/\0<n/\n*by_<=140737488355328/\n<=4611686018427387904) (st':=⟨up (s.st (s.nx-d)).tm d (.val (.one (.own s.nx s.nx n.toNat sz))),up (s.st (s.nx-d)).H s.nx (some ⟨s.nx,E,sz,n.toNat,eA n.toNat (zs.map .lit)⟩),s.nx+1,s.nx-d⟩) hr' hdst hdN hop (by
  simp only [wC,hargs,htys,h1',h2',h3,h4,hz,hnm];rfl) ⟨Nat.eq_of_beq_eq_true hc.1,Av hc.2.1,hc.2.2.1,hc.2.2.2.1,hc.2.2.2.2⟩ fun a' w' hq=>hK a' w' ?_
 rw [ES.re_st,Option.getD_none,mm];exact hq.nb 0
def BT (P:Program) (s:ES) (d:Nat):Op->Option ES
 | .alloc t=>match zrT P t with
  |some zs=>bif !(Nat.beq zs.length 0) then some (s.re none d (.val (.one (.ptr s.nx s.nx 0))) ⟨s.nx,t,zs.length,1,zs.map .lit⟩) else none
  |none=>none
 | .box t x=>match nc (ev (s.st 0) x) with
  |some cs=>bif !(Nat.beq cs.length 0) then some (s.re none d (.val (.one (.ptr s.nx s.nx 0))) ⟨s.nx,t,cs.length,1,cs⟩) else none
  |none=>none
 | .buildSlice t len parts=>match elT P t with
  |some (E,sz,_)=>bif Nat.beq len 0&&(Nat.beq parts.size 0&& !(Nat.beq sz 0)) then some (s.re none d (.val (.one (.own s.nx s.nx 0 sz))) ⟨s.nx,E,sz,0,[]⟩) else match zrT P E with
   |some zs=>bif AJ (fun i=>some (i*sz,sz)) (eA len (zs.map .lit)) (parts.toList.map fun q=>(q.1,ev (s.st 0) q.2)) then match j6 (fun i=>some (i*sz,sz)) (eA len (zs.map .lit)) (parts.toList.map fun q=>(q.1,ev (s.st 0) q.2)) with
    |some (_,r)=>bif Nat.beq zs.length sz&&(decide (0<len*sz)&&(decide (len*sz<=16777216)&&Nat.beq r.length (len*sz))) then some (s.re none d (.val (.one (.own s.nx s.nx len sz))) ⟨s.nx,E,sz,len,r⟩) else none
    |none=>none
    else none
   |none=>none
  |none=>none
 | .makeSlice t l c=>match ev (s.st 0) l,ev (s.st 0) c,elT P t with
  | .val (.one (.lit (.int _ n))),.val (.one (.lit (.int _ n'))),some (E,sz,by_)=>match zrT P E with
   |some zs=>bif decide (n=n')&&(!(Nat.beq sz 0)&&(Nat.beq zs.length sz&&(decide (0<=n)&&(decide ((by_:Int)*n<=281474976710656)&&decide (n<=4611686018427387904))))) then some (s.re none d (.val (.one (.own s.nx s.nx n.toNat sz))) ⟨s.nx,E,sz,n.toNat,eA n.toNat (zs.map .lit)⟩) else none
   |none=>none
  |_,_,_=>none
 |_=>none
theorem C6 (s:ES) (nb nb':Nat) (x:Operand):ev (s.st nb) x=ev (s.st nb') x:=by cases x<;>rfl
theorem C7 {s s':ES} {d:Nat} {op:Op} (hd:d<=s.nx) (h:BT P s d op=some s'):(∃p st',eff P (s.st (s.nx-d)) d op=some (p,st')/\p/\s'.st (s.nx-d)=st'/\((∀c,op≠ .call c)/\∀t x y,op≠ .store t x y))∨(∃t,op= .buildSlice t 0 #[]/\∃E sz by_,elT P t=some (E,sz,by_)/\sz≠0/\s'=s.re none d (.val (.one (.own s.nx s.nx 0 sz))) ⟨s.nx,E,sz,0,[]⟩):=by
 have hnm:s.nx-d+d=s.nx:=by omega
 have hst:(s.st (s.nx-d)).nb+d=s.nx:=hnm;cases op<;>simp only [BT,reduceCtorEq] at h;case alloc t=>
  split at h<;>try (cases h;done)
  rename_i zs hz;replace h:=a6 h;obtain ⟨hc,h⟩:=h;obtain rfl:=Option.some.inj h;refine .inl ⟨_,_,by simp only [eff,hz];rfl,Av (by simpa using hc),?_,fun c hc=>(by cases hc),fun _ _ _ hc=>(by cases hc)⟩;rw [ES.re_st];simp only [ES.st,hnm,Option.getD_none,mm]
 case box t y=>
  split at h<;>try (cases h;done)
  rename_i cs hz;replace h:=a6 h;obtain ⟨hc,h⟩:=h;obtain rfl:=Option.some.inj h;rw [C6 s 0 (s.nx-d)] at hz;refine .inl ⟨_,_,by simp only [eff,hz];rfl,Av (by simpa using hc),?_,fun c hc=>(by cases hc),fun _ _ _ hc=>(by cases hc)⟩;rw [ES.re_st];simp only [ES.st,hnm,Option.getD_none,mm]
 case buildSlice t len parts=>
  split at h<;>try (cases h;done)
  rename_i E sz by_ hel;cases hb:(Nat.beq len 0&&(Nat.beq parts.size 0&& !(Nat.beq sz 0))) with
  |true=>
   rw [hb] at h;simp only [cond_true] at h;obtain rfl:=Option.some.inj h;simp only [Bool.and_eq_true,Bool.not_eq_true'] at hb;have h0:=Nat.eq_of_beq_eq_true hb.1;have h1:=Array.eq_empty_of_size_eq_zero (Nat.eq_of_beq_eq_true hb.2.1);subst h0;subst h1;exact .inr ⟨t,rfl,E,sz,by_,hel,Av hb.2.2,rfl⟩
  |false=>
   rw [hb] at h;simp only [cond_false] at h;split at h<;>try (cases h;done)
   rename_i zs hz;replace h:=a6 h;obtain ⟨hf,h⟩:=h;split at h<;>try (cases h;done)
   rename_i q r hr;replace h:=a6 h;obtain ⟨hc,h⟩:=h;obtain rfl:=Option.some.inj h;simp only [Bool.and_eq_true,decide_eq_true_eq] at hc;have hev:(fun q:Nat×Operand=>(q.1,ev (s.st 0) q.2))=fun q=>(q.1,ev (s.st (s.nx-d)) q.2):=by funext q;rw [C6 s 0 (s.nx-d)]
   rw [hev] at hr hf;refine .inl ⟨q/\zs.length=sz/\0<len*sz/\len*sz<=16777216/\r.length=len*sz,_,by simp only [eff,hel,hz,hr];rfl,⟨rk hf hr,Nat.eq_of_beq_eq_true hc.1,hc.2.1,hc.2.2.1,Nat.eq_of_beq_eq_true hc.2.2.2⟩,?_,fun c hc=>(by cases hc),fun _ _ _ hc=>(by cases hc)⟩;rw [ES.re_st];simp only [ES.st,hnm,Option.getD_none,mm]
 case makeSlice t l c=>
  split at h<;>try (cases h;done)
  rename_i k1 n k2 n' E sz by_ h1 h2 h3;split at h<;>try (cases h;done)
  rename_i zs hz;replace h:=a6 h;obtain ⟨hc,h⟩:=h;obtain rfl:=Option.some.inj h;simp only [Bool.and_eq_true,Bool.not_eq_true',decide_eq_true_eq] at hc;rw [C6 s 0 (s.nx-d)] at h1 h2;refine .inl ⟨n=n'/\sz≠0/\zs.length=sz/\0<=n/\(by_:Int)*n<=281474976710656/\n<=4611686018427387904,_,by simp only [eff,h1,h2,h3,hz];rfl,⟨hc.1,Av hc.2.1,Nat.eq_of_beq_eq_true hc.2.2.1,hc.2.2.2.1,hc.2.2.2.2.1,hc.2.2.2.2.2⟩,?_,fun c hc=>(by cases hc),fun _ _ _ hc=>(by cases hc)⟩;rw [ES.re_st];simp only [ES.st,hnm,Option.getD_none,mm]
theorem Ay {s s':ES} {d:Nat} {K:Act->World->Prop} {Q:Exit->Act->World->Prop} (hr:Rel e k0 N (s.st 0) a w) (hdst:o.dst=some d) (hdN:d<N) (hd:d<=s.nx) (h:BT P s d o.op=some s') (hK:∀a' w',Rel e k0 N (s'.st 0) a' w'->FL w w'->K a' w'):o.wp P a w K Q:=by
 have hr':Rel e k0 N (s.st (s.nx-d)) a w:=hr.nb _;rcases C7 hd h with ⟨p,st',h1,h2,rfl,h4,h5⟩|⟨t,hop,E,sz,by_,hel,hsz,rfl⟩
 ·exact CN hr' hdst hdN h1 h2 h4 h5 fun a' w' hq hF=>hK a' w' (hq.nb 0) hF
 obtain ⟨g1,i,g2,g3,g4⟩:=dZ hel;have hnm:(s.st (s.nx-d)).nb+d=s.nx:=by show s.nx-d+d=s.nx;omega
 refine kH (v:= .slice (some ⟨w.heap.size,0,none⟩) 0 0) (us:=[]) (cs:=[]) (E:=E) (sz:=sz) (n:=0) (x:= .val (.one (.own s.nx s.nx 0 sz))) hr' hdst hdN ?_ (fun σ _ k2=>trivial) hsz (by simp) (by unfold maxLen;omega) (fun σ w'=>?_) fun a' w' hq hF=>hK a' w' ?_ hF
 ·simp only [execOp,hop,Instr.buildSlice,Sem.run_bind,run_underlying g1,Result.andThen_ok,sizeOf,typeInfo,run_program,g2,g3,Sem.run_pure];have hz:Array.range 0= #[]:=by apply Array.eq_empty_of_size_eq_zero;simp
  simp [Instr.fill,newRow,hz]
 ·have:=cb (e:=e) (H:=(s.st (s.nx-d)).H) (nx:=s.nx) (E:=E) (sz:=sz) (n:=0) (cs:=[]) ((s.st (s.nx-d)).nb+d) (v:= .slice (some ⟨w.heap.size,0,none⟩) 0 0) σ w' rfl;rw [hnm] at this ⊢;exact this
 rw [ES.re_st];have hq':=hq.nb 0;rw [hnm] at hq';rw [Option.getD_none,mm];exact hq'
def BU (P:Program) (s:ES) (t:TypeId) (x y:Operand):Option ES:=match ev (s.st 0) x,nc (ev (s.st 0) y),ldT P t with
 | .val (.one (.ptr nm s' off)),some ds,some (_,sz)=>match s.H.get nm with
  |some B=>bif Nat.beq B.st s'&&(Nat.beq ds.length sz&&decide (off+sz<=B.cs.length)) then some (s.putH nm ⟨B.st,B.E,B.sz,B.n,spl B.cs off ds⟩) else none
  |none=>none
 |_,_,_=>none
theorem CG {s s':ES} {t:TypeId} {x y:Operand} {K:Act->World->Prop} {Q:Exit->Act->World->Prop} (hr:Rel e k0 N (s.st 0) a w) (hdst:o.dst=none) (hop:o.op= .store t x y) (h:BU P s t x y=some s') (hK:∀a' w',Rel e k0 N (s'.st 0) a' w'->K a' w'):o.wp P a w K Q:=by
 unfold BU at h;split at h<;>try (cases h;done)
 rename_i nm s1 off ds ag sz h1 h2 h3;split at h<;>try (cases h;done)
 rename_i B hB;replace h:=a6 h;obtain ⟨hc,h⟩:=h;obtain rfl:=Option.some.inj h;simp only [Bool.and_eq_true,decide_eq_true_eq] at hc;have hB':(s.st 0).H nm=some B:=hB;refine tY (p:=B.st=s1/\ds.length=sz/\off+sz<=B.cs.length) (d:=0) (st':=⟨(s.st 0).tm,up (s.st 0).H nm (some {B with cs:=spl B.cs off ds}),(s.st 0).nx,(s.st 0).nb⟩) hr hdst hop (by rw [hop];simp only [eff,h1,h2,h3,hB']) ⟨Nat.eq_of_beq_eq_true hc.1,Nat.eq_of_beq_eq_true hc.2.1,hc.2.2⟩ fun a' w' hq=>hK a' w' ?_
 have:(s.putH nm ⟨B.st,B.E,B.sz,B.n,spl B.cs off ds⟩).st 0=⟨(s.st 0).tm,up (s.st 0).H nm (some {B with cs:=spl B.cs off ds}),(s.st 0).nx,(s.st 0).nb⟩:=by
  have h5:=ES.hF_put s nm ⟨B.st,B.E,B.sz,B.n,spl B.cs off ds⟩;simp only [ES.st,h5];rfl
 rw [this];exact hq
end
structure CK (P:Program) where
 eqT:TypeId->List Value->List Value->Bool
 mkT:TypeId->Value->List C->Bool
 pf:FuncId->Bool
 prim:FuncId->List A1->Option AV
 heq:∀t us vs,eqT t us vs=true->zg P t us vs
 hmk:∀kt k cs,mkT kt k cs=true->MK P kt k cs
 hprim:∀f ys res,prim f ys=some res->ch P f ys res
abbrev Ju:=FuncId->List A1->Tr Blk->Nat->Option (AV×Tr Blk×Nat)
def FJ (P:Program) (call:Ju):Prop:=∀f ys H nx res H' nx',call f ys H nx=some (res,H',nx')->dk P f ys (fun n=>H.get n) nx fun r h n=>r=res/\h=(fun n=>H'.get n)/\n=nx'
abbrev gO:=FuncId->List A1->Option AV
def JE (P:Program) (callP:gO):Prop:=∀f ys res,callP f ys=some res->ys.all aI=true->ch P f ys res
def Bv (g:C->Option (C×Bool)):List C->Option (List C×Bool)
 |[]=>some ([],false)
 |c::cs=>match g c,Bv g cs with
  |some (d,b),some (ds,b')=>some (d::ds,b||b')
  |_,_=>none
def du (st:St):Nat->C->Option (C×Bool)
 |0,_=>none
 |f+1,c=>match c with
  | .lit v=>some (.lit v,false)
  | .sh sz n cs=>bif av cs then some (.sh sz n cs,false) else none
  | .sp cs=>bif av cs then some (.sp cs,false) else none
  | .ptr nm s off=>match st.H nm with
   |some B=>bif Nat.beq B.st s&&Nat.ble off B.cs.length then (match Bv (du st f) (B.cs.drop off) with
    |some (ds,_)=>some (.sp ds,true)
    |none=>none) else none
   |none=>none
  |c=>match AX (.val (.one c)) with
   |some (nm,s,off,n,sz)=>match st.H nm with
    |some B=>bif Nat.beq B.st s&& !(Nat.beq sz 0) then (match Bv (du st f) ((B.cs.drop (off*sz)).take (n*sz)) with
     |some (ds,_)=>some (.sh sz n ds,true)
     |none=>none) else none
    |none=>none
   |none=>none
def Bw (st:St) (f:Nat):A1->Option (A1×Bool)
 | .one c=>(du st f c).map fun r=>(.one r.1,r.2)
 | .agg cs=>(Bv (du st f) cs).map fun r=>(.agg r.1,r.2)
def A4 (st:St) (f:Nat):List A1->Option (List A1×Bool)
 |[]=>some ([],false)
 |a::l=>match Bw st f a,A4 st f l with
  |some (d,b),some (ds,b')=>some (d::ds,b||b')
  |_,_=>none
section
variable {P : Program} {e : En} {st : St} {a : Act} {w : World} {σ : Nat → Value} {κ : Kx}
theorem Az {κ κ':Kx} {g:C->Option (C×Bool)} (hg:∀c d b v,den κ v c->g c=some (d,b)->den κ' v d/\az d=true/\(b=false->d=c)):∀{cs ds:List C} {b:Bool} {vs:List Value},denVs κ vs cs->Bv g cs=some (ds,b)->denVs κ' vs ds/\av ds=true/\(b=false->ds=cs)
 |[],ds,b,[],_,h=>by
  simp only [Bv,Option.some.injEq,Prod.mk.injEq] at h;obtain ⟨rfl,rfl⟩:=h;exact ⟨trivial,rfl,fun _=>rfl⟩
 |[],_,_,_::_,hd,_=>hd.elim
 |_::_,_,_,[],hd,_=>hd.elim
 |c::cs,ds,b,v::vs,hd,h=>by
  simp only [Bv] at h;split at h<;>try (cases h;done)
  rename_i d1 b1 d2 b2 h1 h2;simp only [Option.some.injEq,Prod.mk.injEq] at h;obtain ⟨rfl,rfl⟩:=h;obtain ⟨k1,k2,k3⟩:=hg _ _ _ _ hd.1 h1;obtain ⟨m1,m2,m3⟩:=Az hg hd.2 h2;refine ⟨⟨k1,m1⟩,by simp [av,k2,m2],fun hb=>?_⟩;simp only [Bool.or_eq_false_iff] at hb;rw [k3 hb.1,m3 hb.2]
theorem By (hW:RW e st.H st.nx σ w) (hw:κ.w=w) (hS:∀b,(kx e st.H st.nx σ w).S b->κ.S b) (hO:∀b,e.w0.heap.size<=b->b<w.heap.size->κ.S b):∀(f:Nat) (c d:C) (b:Bool) (v:Value),den (kx e st.H st.nx σ w) v c->du st f c=some (d,b)->den κ v d/\az d=true/\(b=false->d=c):=by
 have hp:∀b,(kx e st.H st.nx σ w).S b->κ.S b/\κ.w.heap[b]? =(kx e st.H st.nx σ w).w.heap[b]? :=fun b hb=>⟨hS b hb,by rw [hw];rfl⟩
 intro f;induction f with
 |zero=>intro c d b v _ h;simp [du] at h
 |succ f ih=>
  have vwc:∀(c d:C) (b:Bool) (v:Value),den (kx e st.H st.nx σ w) v c->(match AX (.val (.one c)) with
   |some (nm,s,off,n,sz)=>match st.H nm with
    |some B=>bif Nat.beq B.st s&& !(Nat.beq sz 0) then (match Bv (du st f) ((B.cs.drop (off*sz)).take (n*sz)) with
     |some (ds,_)=>some (.sh sz n ds,true)
     |none=>none) else none
    |none=>none
   |none=>none)=some (d,b)->den κ v d/\az d=true/\(b=false->d=c):=by
   intro c d b v hd h;split at h<;>try (cases h;done)
   rename_i nm s off n sz hv;split at h<;>try (cases h;done)
   rename_i B hB;replace h:=a6 h;obtain ⟨hc,h⟩:=h;simp only [Bool.and_eq_true,Bool.not_eq_true'] at hc;split at h<;>try (cases h;done)
   rename_i ds b' hm;simp only [Option.some.injEq,Prod.mk.injEq] at h;obtain ⟨rfl,rfl⟩:=h;have hd':aG (kx e st.H st.nx σ w) v (.val (.one c)):=hd;obtain ⟨ad,cap,xs,k1,k2,k3,k4,k5,k6,k7,k8,k9,k10,k11⟩:=JP hW hd' hv hB (Nat.eq_of_beq_eq_true hc.1) (Av hc.2);have hds:=Az ih ((k10.drop (off*sz)).take (n*sz)) hm;refine ⟨?_,by simpa [az] using hds.2.1,fun h=>by cases h⟩;have hle:off*sz+n*sz<=B.n*sz:=by rw [←Nat.add_mul];exact Nat.mul_le_mul_right _ k5
   have hlen:ds.length=n*sz:=by
    rw [←hds.1.length,List.length_take,List.length_drop,k10.length,k8,k4];omega
   simp only [den];refine ⟨ad,cap,k1,k2,k3,k11,hlen,?_⟩;rcases k7 with k7|⟨b,q1,q2⟩
   ·exact .inl k7
   refine .inr ⟨b,off*sz,q2,hO b (hW.lt hB (iV q1)).1 (hW.lt hB (iV q1)).2,denM.of_vals hds.1 fun j u hu=>?_⟩;rw [List.getElem?_take] at hu;split at hu<;>try (cases hu;done)
   rw [List.getElem?_drop] at hu;have:=k9.cells (g:=b) q1 (off*sz+j) u hu;rw [add_lit] at this;rw [hw];simpa using this
  intro c d b v hd h;cases c with
  |lit x=>
   simp only [du,Option.some.injEq,Prod.mk.injEq] at h;obtain ⟨rfl,rfl⟩:=h
   exact ⟨cP hp rfl hd,rfl,fun _=>rfl⟩
  |sh sz n cs=>
   simp only [du] at h;replace h:=a6 h;obtain ⟨hc,h⟩:=h;simp only [Option.some.injEq,Prod.mk.injEq] at h;obtain ⟨rfl,rfl⟩:=h
   have hpc:az (.sh sz n cs)=true:=by simpa [az] using hc
   exact ⟨cP hp hpc hd,hpc,fun _=>rfl⟩
  |sp cs=>
   simp only [du] at h;replace h:=a6 h;obtain ⟨hc,h⟩:=h;simp only [Option.some.injEq,Prod.mk.injEq] at h;obtain ⟨rfl,rfl⟩:=h
   have hpc:az (.sp cs)=true:=by simpa [az] using hc
   exact ⟨cP hp hpc hd,hpc,fun _=>rfl⟩
  |ptr nm s off=>
   simp only [du] at h;split at h<;>try (cases h;done)
   rename_i B hB;replace h:=a6 h;obtain ⟨hc,h⟩:=h;simp only [Bool.and_eq_true] at hc;split at h<;>try (cases h;done)
   rename_i ds b' hm;simp only [Option.some.injEq,Prod.mk.injEq] at h;obtain ⟨rfl,rfl⟩:=h
   have hd':aG (kx e st.H st.nx σ w) v (.val (.one (.ptr nm s off))):=hd;obtain ⟨g,q1,q2,xs,q3,q4⟩:=ip hW hd' hB (Nat.eq_of_beq_eq_true hc.1);have hds:=Az ih (q4.drop off) hm;refine ⟨?_,by simpa [az] using hds.2.1,fun h=>by cases h⟩;simp only [den];refine ⟨g,off,q2,hO g (hW.lt hB (iV q1)).1 (hW.lt hB (iV q1)).2,denM.of_vals hds.1 fun j u hu=>?_⟩;rw [List.getElem?_drop] at hu;have:=q3.cells (g:=g) q1 (off+j) u hu;rw [add_lit] at this;rw [hw];simpa using this
  |own nm s n sz=>exact vwc _ d b v hd (by simpa only [du] using h)
  |vw nm s off n sz=>exact vwc _ d b v hd (by simpa only [du] using h)
  |dead=>simp [du,AX] at h
  |clo f sh cs=>simp [du,AX] at h
  |e0=>simp [du,AX] at h
theorem Bz (hW:RW e st.H st.nx σ w) (hw:κ.w=w) (hS:∀b,(kx e st.H st.nx σ w).S b->κ.S b) (hO:∀b,e.w0.heap.size<=b->b<w.heap.size->κ.S b) {f:Nat} {x y:A1} {b:Bool} {v:Value} (hd:bb (kx e st.H st.nx σ w) v x) (h:Bw st f x=some (y,b)):bb κ v y/\aI y=true/\(b=false->y=x):=by
 cases x with
 |one c=>
  simp only [Bw,Option.map_eq_some_iff] at h;obtain ⟨⟨d,b'⟩,h1,h2⟩:=h;simp only [Prod.mk.injEq] at h2;obtain ⟨rfl,rfl⟩:=h2;obtain ⟨k1,k2,k3⟩:=By hW hw hS hO f c d b' v hd h1;exact ⟨k1,by simp [aI,A1.cells,av,k2],fun hb=>by rw [k3 hb]⟩
 |agg cs=>
  simp only [Bw,Option.map_eq_some_iff] at h;obtain ⟨⟨d,b'⟩,h1,h2⟩:=h;simp only [Prod.mk.injEq] at h2;obtain ⟨rfl,rfl⟩:=h2;obtain ⟨vs,g1,g2⟩:=hd;obtain ⟨k1,k2,k3⟩:=Az (By hW hw hS hO f) g2 h1;exact ⟨⟨vs,g1,k1⟩,k2,fun hb=>by rw [k3 hb]⟩
theorem AK (hW:RW e st.H st.nx σ w) (hw:κ.w=w) (hS:∀b,(kx e st.H st.nx σ w).S b->κ.S b) (hO:∀b,e.w0.heap.size<=b->b<w.heap.size->κ.S b) {f:Nat}:∀{l ys:List A1} {b:Bool} {vs:List Value},cz (kx e st.H st.nx σ w) vs l->A4 st f l=some (ys,b)->cz κ vs ys/\ys.all aI=true/\(b=false->ys=l)
 |[],ys,b,[],_,h=>by
  simp only [A4,Option.some.injEq,Prod.mk.injEq] at h;obtain ⟨rfl,rfl⟩:=h;exact ⟨trivial,rfl,fun _=>rfl⟩
 |[],_,_,_::_,hd,_=>hd.elim
 |_::_,_,_,[],hd,_=>hd.elim
 |x::l,ys,b,v::vs,hd,h=>by
  simp only [A4] at h;split at h<;>try (cases h;done)
  rename_i d1 b1 d2 b2 h1 h2;simp only [Option.some.injEq,Prod.mk.injEq] at h;obtain ⟨rfl,rfl⟩:=h;obtain ⟨k1,k2,k3⟩:=Bz hW hw hS hO hd.1 h1;obtain ⟨m1,m2,m3⟩:=AK hW hw hS hO hd.2 h2;refine ⟨⟨k1,m1⟩,by simp [k2,m2],fun hb=>?_⟩;simp only [Bool.or_eq_false_iff] at hb;rw [k3 hb.1,m3 hb.2]
end
def Eo (P:Program) (mk:TypeId->Value->List C->Bool) (s:ES) (t:TypeId) (m k v:Operand):Option ES:=match ev (s.st 0) m,sK (ev (s.st 0) k),sK (ev (s.st 0) v),mpT P t with
 | .val (.one (.own nm st n sz)),some kv,some vv,some (kt,_)=>match s.H.get nm with
  |some B=>bif Nat.beq B.st st&&(Nat.beq n 0&&(Nat.beq sz 0&&mk kt kv B.cs)) then some (s.putH nm ⟨B.st,B.E,B.sz,B.n,jI kv vv B.cs⟩) else none
  |none=>none
 |_,_,_,_=>none
def DQ (P:Program) (mk:TypeId->Value->List C->Bool) (st:St) (t:TypeId) (m k:Operand) (ok:Bool):Option AV:=match ev st m,sK (ev st k),mpT P t with
 | .val (.one (.own nm s n sz)),some kv,some (kt,z)=>match st.H nm with
  |some B=>bif Nat.beq B.st s&&(Nat.beq n 0&&(Nat.beq sz 0&&mk kt kv B.cs)) then tZ ok (gK kv B.cs) z else none
  |none=>none
 |_,_,_=>none
def Bg (P:Program) (K:CK P) (st:St) (op:Op):Option AV:=match op with
 | .lookup t m k ok=>DQ P K.mkT st t m k ok
 |op=>BQ P K.eqT st op
def tgt (st:St) (x:Operand):Option (FuncId×List A1):=match ev st x with
 | .val (.one (.lit (.func (.func f) fi ca)))=>match fi.toList,ca.toList with
  |[],[]=>some (f,[])
  |_,_=>none
 | .val (.one (.clo f sh cs))=>some (f,CC sh cs)
 |_=>none
def goE (P : Program) (K : CK P) (call : Ju) (callP : gO) (s : ES) (d : Nat) (x : Operand) (args : Array Operand) : Option ES := match tgt (s.st 0) x, kP (args.toList.map (ev (s.st 0))) with
  | some (f, cap), some ys => bif K.pf f then
      (bif cap.isEmpty then match A4 (s.st 0) 50 ys with
        | some (zs, b) => match callP f zs with
          | some res => bif bu (if b then FT else aI) res then some (s.putT d res) else none
          | none => none
        | none => none
        else none)
      else match call f (ys ++ cap) s.H s.nx with
        | some (res, H', nx') => some ⟨s.tm.put d (some res), H', nx'⟩
        | none => none
  | _, _ => none
def Cj (P:Program) (K:CK P) (call:Ju) (callP:gO) (N:Nat) (s:ES) (o:Oper):Option ES:=match o.dst with
 |none=>match o.op with
  | .store t x y=>BU P s t x y
  | .mapUpdate t m k v=>Eo P K.mkT s t m k v
  |_=>none
 |some d=>bif Nat.blt d N&&Nat.ble d s.nx then match o.op with
  | .call {callee:= .value x,args,..}=>goE P K call callP s d x args
  | .call {callee:= .builtin .append,args,argTypes}=>match Bf P s d args argTypes with
   |some s'=>some s'
   |none=>BS P s d args argTypes
  | .makeMap t none=>some (s.re none d (.val (.one (.own s.nx s.nx 0 0))) ⟨s.nx,t,0,0,[]⟩)
  | .alloc t=>BT P s d (.alloc t)
  | .box t x=>BT P s d (.box t x)
  | .buildSlice t l ps=>BT P s d (.buildSlice t l ps)
  | .makeSlice t l c=>BT P s d (.makeSlice t l c)
  |op=>(Bg P K (s.st 0) op).map (s.putT d)
  else none
def gS (P:Program) (K:CK P) (o:Oper):Bool:=match o.op with
 | .store .. =>false
 | .mapUpdate .. =>false
 | .call {callee:= .builtin .append,..}=>false
 | .call {callee:= .value (.func f),..}=>K.pf f
 | .call {callee:= .value _,..}=>false
 |_=>true
section
variable {P : Program} {e : En} {k0 : Kx} {N : Nat} {st : St} {a : Act} {w : World} {σ : Nat → Value} {o : Oper} {x : AV} {K : CK P} {call : Ju} {callP : gO}
theorem A5 (hW:RW e st.H st.nx σ w) (ht:∀t,aG (kx e st.H st.nx σ w) (a.tmps.getD t undef) (st.tm t)) (h:Bg P K st o.op=some x):Yl P o a w (kx e st.H st.nx σ w) x:=by
 unfold Bg at h;split at h
 ·rename_i t m k ok hop;unfold DQ at h;split at h<;>try (cases h;done)
  rename_i nm s n sz kv kt z h1 h2 h3;split at h<;>try (cases h;done)
  rename_i B hB;replace h:=a6 h;obtain ⟨hc,h⟩:=h;simp only [Bool.and_eq_true] at hc;refine m6 (p:=B.st=s/\n=0/\sz=0/\MK P kt kv B.cs) hW ht (by rw [hop];simp only [ir,h1,h2,h3,hB,h]) ⟨Nat.eq_of_beq_eq_true hc.1,Nat.eq_of_beq_eq_true hc.2.1,Nat.eq_of_beq_eq_true hc.2.2.1,K.hmk _ _ _ hc.2.2.2⟩
 exact CE K.heq hW ht h
theorem D5 (ht:∀t,aG (kx e st.H st.nx σ w) (a.tmps.getD t undef) (st.tm t)) {y:Operand} {f:FuncId} {cap:List A1} (h:tgt st y=some (f,cap)):∃ca:List Value,a.eval y= .func (.func f) #[] ca.toArray/\cz (kx e st.H st.nx σ w) ca cap:=by
 have hy:=bc ht y;unfold tgt at h;split at h<;>try (cases h;done)
 ·rename_i g fi ca he;rw [he] at hy;split at h<;>try (cases h;done)
  rename_i h1 h2;simp only [Option.some.injEq,Prod.mk.injEq] at h;obtain ⟨rfl,rfl⟩:=h;simp only [aG,bb,den] at hy;have h3:fi= #[]:=Array.toList_inj.1 h1;have h4:ca= #[]:=Array.toList_inj.1 h2;exact ⟨[],by rw [hy.1,h3,h4],trivial⟩
 rename_i g sh cs he;rw [he] at hy;simp only [Option.some.injEq,Prod.mk.injEq] at h;obtain ⟨rfl,rfl⟩:=h;simp only [aG,bb,den] at hy;obtain ⟨vs,us,h1,h2,h3⟩:=hy;exact ⟨vs,h1,Be h2 (JJ.1 h3)⟩
theorem AM {c:Call} {f:FuncId} {y:Operand} {ca:List Value} (hop:o.op= .call c) (hcal:c.callee= .value y) (hy:a.eval y= .func (.func f) #[] ca.toArray) (hf:l5 P f):(execOp a.eval o).run P w= .ok (.enter f (c.args.toList.map a.eval++ca).toArray) w:=by
 obtain ⟨fn,hf1,hf2,hf3⟩:=hf;obtain ⟨callee,args,argTypes⟩:=c;simp only at hcal;subst hcal;have hbn:¬fn.body=none:=fun h=>by rw [h] at hf3;cases hf3
 simp only [execOp,hop,Sem.run_bind,resolve,hy,Deferred.ofValue];have e1:Array.map a.eval args=(List.map a.eval args.toList).toArray:=by rw [←Array.toList_map,Array.toArray_toList]
 simp [invoke,callFunc,hf1,hf2,hbn,e1]
theorem JL {κ:Kx}:∀{vs us:List Value} {l m:List A1},cz κ vs l->cz κ us m->cz κ (vs++us) (l++m)
 |[],_,[],_,_,h=>h
 |_::_,_,_::_,_,h,k=>⟨h.1,JL h.2 k⟩
 |[],_,_::_,_,h,_=>h.elim
 |_::_,_,[],_,h,_=>h.elim
theorem D6 (hcall : FJ P call) (hcallP : JE P callP) {s s' : ES} {d : Nat} {y : Operand} {args : Array Operand} {tys : Array TypeId} {KK : Act → World → Prop} {Q : Exit → Act → World → Prop} (hr : Rel e k0 N (s.st 0) a w) (hdst : o.dst = some d) (hdN : d < N) (hop : o.op = .call { callee := .value y, args := args, argTypes := tys })
    (h : goE P K call callP s d y args = some s') (hK : ∀ a' w', Rel e k0 N (s'.st 0) a' w' → (gS P K o = true → FL w w') → KK a' w') : o.wp P a w KK Q := by
  obtain ⟨σ, h1, h2, h3⟩ := hr.ex
  unfold goE at h
  split at h <;> try (cases h; done)
  rename_i f cap ys ht hs
  obtain ⟨ca, g1, g2⟩ := D5 h2 ht
  have hargs := rA (κ := kx e (s.st 0).H (s.st 0).nx σ w) (vs := args.toList.map a.eval) (by
    refine ⟨by simp, fun i h h' => ?_⟩
    simp only [List.getElem_map]
    exact bc h2 _) hs
  cases hpf : K.pf f with
  | true =>
    rw [hpf, cond_true] at h
    replace h := a6 h
    obtain ⟨hc, h⟩ := h
    simp only [List.isEmpty_iff] at hc
    split at h <;> try (cases h; done)
    rename_i zs b hz
    split at h <;> try (cases h; done)
    rename_i res hp
    replace h := a6 h
    obtain ⟨hfl, h⟩ := h
    obtain rfl := Option.some.inj h
    subst hc
    have hca : ca = [] := by cases ca with
      | nil => rfl
      | cons _ _ => exact g2.elim
    subst hca
    obtain ⟨z1, z2, z3⟩ := AK (κ := eP w) h1 rfl (fun b hb => kO hb.2.1) (fun b _ hb => kO hb) hargs hz
    obtain ⟨hfn, hac⟩ := hcallP _ _ _ hp z2
    have hrun := AM (w := w) hop rfl g1 hfn
    have h5 : (s.putT d res).st 0 = ⟨up s.tmF d res, s.hF, s.nx, 0⟩ := by simp only [ES.st, ES.tmF_put]; rfl
    have key : ∀ (T : Nat → Prop), (∀ b, T b → b < w.heap.size) → cz (kIn w T w) (args.toList.map a.eval) zs → (∀ v w', Below w.heap.size w w' → aG (kIn w T w') v res → aG (kx e (s.st 0).H (s.st 0).nx σ w') v res) → o.wp P a w KK Q := by
      intro T hT hargs' hout
      unfold Oper.wp
      rw [hrun]
      simp only [List.append_nil]
      refine (hac w T _ hT hargs').mono fun ex w' hex => ?_
      obtain ⟨v, rfl, hb, hv⟩ := hex
      obtain ⟨q1, q2⟩ := h1.keep (iK hb)
      show KK (a.put o.dst v) w'
      rw [hdst]
      refine hK _ _ ?_ fun _ => FL.of_below hb
      rw [h5]
      exact hr.put q1 h2 h3 q2 (hout v w' hb hv) d hdN
    cases b with
    | true => exact key (fun b => b < w.heap.size) (fun _ h => h) z1 fun v w' _ hv => mt (by simpa using hfl) hv
    | false =>
      refine key (kx e (s.st 0).H (s.st 0).nx σ w).S (fun b hb => hb.2.1) ?_ fun v w' hb hv => ?_
      · rw [z3 rfl] at z2 ⊢
        exact iZ (κ := kx e (s.st 0).H (s.st 0).nx σ w) (κ' := kIn w (kx e (s.st 0).H (s.st 0).nx σ w).S w) (fun b hb => ⟨⟨.inl hb, hb.2.1, fun _ _ h => by cases h⟩, rfl⟩) z2 hargs
      refine sM (κ := kIn w (kx e (s.st 0).H (s.st 0).nx σ w).S w') (κ' := kx e (s.st 0).H (s.st 0).nx σ w') (fun b hbS => ⟨?_, rfl⟩) (by simpa using hfl) hv
      obtain ⟨h5, h6, _⟩ := hbS
      rcases h5 with h5 | h5
      · have h5' : (kx e (s.st 0).H (s.st 0).nx σ w).S b := h5
        exact ⟨h5'.1, h6, h5'.2.2⟩
      refine ⟨.inr (Nat.le_trans h1.size h5), h6, fun nm B hB hob => ?_⟩
      have := (h1.lt hB hob).2
      have h5' : w.heap.size ≤ b := h5
      omega
  | false =>
    rw [hpf, cond_false] at h
    split at h <;> try (cases h; done)
    rename_i res H' nx' hc
    obtain rfl := Option.some.inj h
    obtain ⟨hfn, hac⟩ := hcall _ _ _ _ _ _ _ hc
    have hrun := AM (w := w) hop rfl g1 hfn
    unfold Oper.wp
    rw [hrun]
    refine (hac e σ w _ h1 (JL hargs g2)).mono fun ex w' hex => ?_
    obtain ⟨v, res', H2, nx2, σ', rfl, q1, q2, q3, rfl, rfl, rfl⟩ := hex
    show KK (a.put o.dst v) w'
    rw [hdst]
    refine hK _ _ ?_ fun hk => ?_
    · have h5 : (ES.mk (s.tm.put d (some res')) H' nx2).st 0 = ⟨up s.tmF d res', fun n => H'.get n, nx2, 0⟩ := by
        have := ES.tmF_put s d res'
        simp only [ES.st]
        rw [show (ES.mk (s.tm.put d (some res')) H' nx2).tmF = up s.tmF d res' from this]; rfl
      rw [h5]
      exact hr.put q1 h2 h3 q2 q3 d hdN
    exfalso
    unfold gS at hk
    rw [hop] at hk
    cases y with
    | func g =>
      simp only at hk
      have : f = g := by
        have e1 : a.eval (.func g) = .func (.func g) #[] #[] := rfl
        rw [e1] at g1
        simp only [Value.func.injEq, Fn.func.injEq] at g1
        exact g1.1.symm
      rw [this, hk] at hpf; cases hpf
    | tmp t => simp at hk
    | const v => simp at hk
    | global g => simp at hk
theorem BA (hcall : FJ P call) (hcallP : JE P callP) {s s' : ES} {KK : Act → World → Prop} {Q : Exit → Act → World → Prop} (hr : Rel e k0 N (s.st 0) a w) (h : Cj P K call callP N s o = some s') (hK : ∀ a' w', Rel e k0 N (s'.st 0) a' w' → (gS P K o = true → FL w w') → KK a' w') : o.wp P a w KK Q := by
  unfold Cj at h
  split at h
  · rename_i hdst
    split at h <;> try (cases h; done)
    · rename_i t x y hop
      refine CG hr hdst hop h fun a' w' hq => hK a' w' hq fun hk => ?_
      rw [gS, hop] at hk; cases hk
    rename_i t m k v hop
    unfold Eo at h
    split at h <;> try (cases h; done)
    rename_i nm s1 n sz kv vv kt z h1 h2 h3 h4
    split at h <;> try (cases h; done)
    rename_i B hB
    replace h := a6 h
    obtain ⟨hc, h⟩ := h
    obtain rfl := Option.some.inj h
    simp only [Bool.and_eq_true] at hc
    have hB' : (s.st 0).H nm = some B := hB
    refine yb (p := B.st = s1 ∧ n = 0 ∧ sz = 0 ∧ MK P kt kv B.cs) (st' := ⟨(s.st 0).tm, up (s.st 0).H nm (some { B with cs := jI kv vv B.cs }), (s.st 0).nx, (s.st 0).nb⟩) hr hdst hop (by simp only [m7, h1, h2, h3, h4, hB'])
      ⟨Nat.eq_of_beq_eq_true hc.1, Nat.eq_of_beq_eq_true hc.2.1, Nat.eq_of_beq_eq_true hc.2.2.1, K.hmk _ _ _ hc.2.2.2⟩ fun a' w' hq => hK a' w' ?_ fun hk => ?_
    · have : (s.putH nm ⟨B.st, B.E, B.sz, B.n, jI kv vv B.cs⟩).st 0 = ⟨(s.st 0).tm, up (s.st 0).H nm (some { B with cs := jI kv vv B.cs }), (s.st 0).nx, (s.st 0).nb⟩ := by
        have h5 := ES.hF_put s nm ⟨B.st, B.E, B.sz, B.n, jI kv vv B.cs⟩
        simp only [ES.st, h5]; rfl
      rw [this]; exact hq
    rw [gS, hop] at hk; cases hk
  rename_i d hdst
  replace h := a6 h
  obtain ⟨hc, h⟩ := h
  simp only [Bool.and_eq_true, Nat.blt_eq, Nat.ble_eq] at hc
  obtain ⟨hdN, hd⟩ := hc
  split at h
  · rename_i x args tys hop
    exact D6 hcall hcallP hr hdst hdN hop h hK
  · rename_i args tys hop
    split at h
    · rename_i s1 h1
      obtain rfl := Option.some.inj h
      refine BR hr hdst hdN hop h1 fun a' w' hq => hK a' w' hq fun hk => ?_
      rw [gS, hop] at hk; cases hk
    refine CF hr hdst hdN hd hop h fun a' w' hq => hK a' w' hq fun hk => ?_
    rw [gS, hop] at hk; cases hk
  · rename_i t hop
    obtain rfl := Option.some.inj h
    have hnm : s.nx - d + d = s.nx := by omega
    have hr' : Rel e k0 N (s.st (s.nx - d)) a w := hr.nb _
    refine Iw hr' hdst hdN hop (by rfl) fun a' w' hq hF => hK a' w' ?_ fun _ => hF
    rw [ES.re_st]
    have hq' := hq.nb 0
    have e1 : (s.st (s.nx - d)).nb + d = s.nx := hnm
    rw [e1] at hq'
    rw [Option.getD_none, mm]
    exact hq'
  · rename_i t hop
    rw [← hop] at h
    exact Ay hr hdst hdN hd h fun a' w' hq hF => hK a' w' hq fun _ => hF
  · rename_i t x hop
    rw [← hop] at h
    exact Ay hr hdst hdN hd h fun a' w' hq hF => hK a' w' hq fun _ => hF
  · rename_i t l ps hop
    rw [← hop] at h
    exact Ay hr hdst hdN hd h fun a' w' hq hF => hK a' w' hq fun _ => hF
  · rename_i t l c hop
    rw [← hop] at h
    exact Ay hr hdst hdN hd h fun a' w' hq hF => hK a' w' hq fun _ => hF
  simp only [Option.map_eq_some_iff] at h
  obtain ⟨y, hy, rfl⟩ := h
  obtain ⟨σ, h1, h2, h3⟩ := hr.ex
  obtain ⟨v, k1, k2⟩ := A5 h1 h2 hy
  refine fv (k1 w (.inl (FL.refl w))) ?_
  rw [hdst]
  refine hK _ _ ?_ fun _ => FL.refl w
  have h5 : (s.putT d y).st 0 = ⟨up s.tmF d y, s.hF, s.nx, 0⟩ := by simp only [ES.st, ES.tmF_put]; rfl
  rw [h5]
  exact hr.put h1 h2 h3 (Ext.refl _) k2 d hdN
end
end Go.Proofs.YtcgpghifhehlhaaGreatDoor
