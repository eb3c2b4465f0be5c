/- Groups compared with themselves: the reference's SameGroup; walked by the abstract machine. -/
import Derived.Test.YtcgpghifhehlhaaGreatDoorRv3M
import Derived.Test.YtcgpghifhehlhaaGreatDoorRw5M
import Derived.Test.YtcgpghifhehlhaaGreatDoorCc2M
import Derived.Test.YtcgpghifhehlhaaGreatDoorLawM
import Derived.Test.YtcgpghifhehlhaaGreatDoorAb7M
import Derived.Laws.Cover3
set_option linter.unusedVariables false
set_option maxHeartbeats 4000000
set_option maxRecDepth 100000
set_option linter.unusedSimpArgs false
set_option linter.defProp false
set_option linter.unusedSectionVars false
namespace Go.Proofs.YtcgpghifhehlhaaGreatDoor
open Go Go.RowKit Go.Proofs.Tryz
def F70:=And.intro zS (And.intro u7 (And.intro tv (xf)))
theorem F71:type_of%F70:=F70
theorem Kl (l:List Leg) (hl:l.length<=1000000000000):ch prog 48 [.one (.sh 2 l.length (ar f9 l)),.one (.sh 2 l.length (ar f9 l))] (one (.bool true)):=by
 refine bF func48 rfl (by decide) (N:=26) rfl (by simp) (R:=[.tmp 4]) rfl fun en k0=>?_
 refine awN ?_;simp only [F71,seval];repeat refine ob ?_
 refine awN ?_;simp only [F71,seval,decide_true,Bool.not_true,BEq.rfl];repeat refine ob ?_
 refine awF ?_;refine awK ?_;simp only [F71,seval];refine awN ?_;simp only [F71,seval];repeat refine ob ?_
 refine aQ [0,1,5] [] ?_;try simp only [aq,F71,seval]
 repeat' first|apply awS|apply awB
 refine aB (fun n st=>∃k nx,k<=l.length/\n=l.length-k/\st=⟨mkT [(0,.val (.one (.sh 2 l.length (ar f9 l)))),(1,.val (.one (.sh 2 l.length (ar f9 l)))),(5,one (.int .i64 k))],mkH [],nx,0⟩) (l.length) ⟨0,_,by omega,by omega,rfl⟩ ?_;rintro n0 st ⟨k,nx0,hk0,rfl,rfl⟩;by_cases hlt0:(k:Int)<(l.length:Int)
 ·refine awN ?_;simp only [F71,seval,hlt0];repeat refine ob ?_
  refine awT ?_;refine awK ?_;simp only [F71,seval];have hk2:k<l.length:=by omega
  have hat:=aO cr l k hk2;have hq:=Lv l[k] l[k];have hqv:=Lw l[k] l[k];refine awD (scT 0 9 .nil) [0,0,0,0,0,0,0,0,0] ?_;simp only [F71,seval,hlt0,hat,f9,hqv,decide_true,Bool.not_true,BEq.rfl];repeat refine ob ?_
  try refine ⟨hq,?_⟩
  repeat refine ob ?_
  refine awF ?_;refine awK ?_;simp only [F71,seval];refine awN ?_;simp only [F71,seval,hlt0];repeat refine ob ?_
  repeat refine ob ?_
  refine ⟨_,aH [0,1,5] [],l.length-(k+1),by omega,k+1,?na7,by omega,rfl,?st7⟩;case st7=>(simp only [F71,seval];first|rfl|(simp;done))
 refine awN ?_;simp only [F71,seval,hlt0];repeat refine ob ?_
 refine awF ?_;refine awQ ?_;simp only [F71,seval];refine awN ?_;simp only [F71,seval,hlt0];repeat refine ob ?_
 refine awX ?_;(first|(simp only [F71,seval,hlt0];done)|(simp only [F71,seval];first|(simp [hlt0];done)))
def F72:=And.intro zS (Kg)
theorem F73:type_of%F72:=F72
theorem Km (a:GPart):ch prog 146 [.agg (aT a),.agg (aT a)] (one (.bool true)):=by
 refine bF func146 rfl (by decide) (N:=8) rfl (by simp) (R:=[.tmp 4]) rfl fun en k0=>?_
 refine awN ?_;simp only [F73,seval,aT];repeat refine ob ?_
 have hq:=Lp a;have hqv:=Lq a;refine awN ?_;simp only [F73,seval,aT,hqv];repeat refine ob ?_
 try refine ⟨hq,?_⟩
 repeat refine ob ?_
 refine awX ?_;(first|(simp only [F73,seval,aT];done)|(simp only [F73,seval,aT];first|(simp [];done)))
def F74:=And.intro zS (And.intro tf0 (And.intro tf2 (And.intro tf3 (And.intro tf5 (And.intro tf6 (And.intro tf9 (And.intro tu (Kg))))))))
theorem F75:type_of%F74:=F74
theorem Kz (a:cw) (ha:a.length<=1000000000000/\∀t∈a,t.length<=1000000000000):ch prog 98 [.agg (aU a),.agg (aU a)] (one (.bool true)):=by
 have ha1:=ha.1;refine bF func98 rfl (by decide) (N:=62) rfl (by simp) (R:=[.tmp 4]) rfl fun en k0=>?_
 refine awN ?_;simp only [F75,seval,aU];repeat refine ob ?_
 refine awN ?_;simp only [F75,seval,aU,decide_true,Bool.not_true,BEq.rfl];repeat refine ob ?_
 refine awF ?_;refine awK ?_;simp only [F75,seval];refine awN ?_;simp only [F75,seval,aU];repeat refine ob ?_
 refine aQ [2,3,5] [2,3] ?_;try simp only [aq,F75,seval,aU]
 repeat' first|apply awS|apply awB
 refine aB (fun n st=>∃k nx,k<=a.length/\n=a.length-k/\st=⟨mkT [(2,.val (.one (.ptr 2 0 0))),(3,.val (.one (.ptr 3 1 0))),(5,one (.int .i64 k))],mkH [(2,⟨0,50,1,1,aU a⟩),(3,⟨1,50,1,1,aU a⟩)],nx,0⟩) (a.length) ⟨0,_,by omega,by omega,rfl⟩ ?_;rintro n0 st ⟨k,nx0,hk0,rfl,rfl⟩;by_cases hlt0:(k:Int)<(a.length:Int)
 ·refine awN ?_;simp only [F75,seval,aU,hlt0];repeat refine ob ?_
  refine awT ?_;refine awK ?_;simp only [F75,seval];have hk2:k<a.length:=by omega
  have hat:=aO eI a k hk2;rw [Nat.mul_one] at hat;obtain ⟨t,ht⟩:∃t,a[k]=t:=⟨_,rfl⟩;rw [ht] at hat;have hht:=ha.2 t (ht▸List.getElem_mem hk2);refine awD (scT 0 13 .nil) [0,0,0,0,0,0,0,0,0,0,0,0,0] ?_;simp only [F75,seval,aU,hlt0,hat,bo,decide_true,Bool.not_true,BEq.rfl];repeat refine ob ?_
  refine awF ?_;refine awK ?_;simp only [F75,seval];refine awN ?_;simp only [F75,seval,aU,hlt0];repeat refine ob ?_
  refine aQ [2,3,5,6] [2,3] ?_;try simp only [aq,F75,seval,aU,hlt0]
  repeat' first|apply awS|apply awB
  refine aB (fun n st=>∃q nx,q<=t.length/\n=t.length-q/\st=⟨mkT [(2,.val (.one (.ptr 2 0 0))),(3,.val (.one (.ptr 3 1 0))),(5,one (.int .i64 k)),(6,one (.int .i64 q))],mkH [(2,⟨0,50,1,1,aU a⟩),(3,⟨1,50,1,1,aU a⟩)],nx,0⟩) (t.length) ⟨0,_,by omega,by omega,rfl⟩ ?_;rintro n1 st ⟨q,nx1,hk1,rfl,rfl⟩;by_cases hlt1:(q:Int)<(t.length:Int)
  ·refine awN ?_;simp only [F75,seval,aU,hlt0,hlt1,hat,bo];repeat refine ob ?_
   refine awT ?_;refine awK ?_;simp only [F75,seval];have hq2:q<t.length:=by omega
   have hatq:=aO gj t q hq2;refine awD (scT 0 16 (scq [32,35] .nil)) [0,0,0,0,0,0,0,0,0,0,0,0,0,0,0,0,0,0] ?_;simp only [F75,seval,aU,hlt0,hlt1,hat,bo,hatq,aT,decide_true,Bool.not_true,BEq.rfl];repeat refine ob ?_
   refine ⟨_,(Km t[q]),rfl,?_⟩;try simp only [aq,F75,seval,aU,hlt0,hlt1,hat,bo,hatq,aT,decide_true,Bool.not_true,BEq.rfl]
   repeat refine ob ?_
   refine awF ?_;refine awK ?_;simp only [F75,seval];refine awN ?_;simp only [F75,seval,aU,hlt0,hlt1];repeat refine ob ?_
   repeat refine ob ?_
   refine ⟨_,aH [2,3,5,6] [2,3],t.length-(q+1),by omega,q+1,?na10,by omega,rfl,?st10⟩;case st10=>(simp only [F75,seval];first|rfl|(simp;done))
  refine awN ?_;simp only [F75,seval,aU,hlt0,hlt1,hat,bo];repeat refine ob ?_
  refine awF ?_;refine awQ ?_;simp only [F75,seval];refine awN ?_;simp only [F75,seval,aU,hlt0,hlt1];repeat refine ob ?_
  repeat refine ob ?_
  refine ⟨_,aH [2,3,5] [2,3],a.length-(k+1),by omega,k+1,?na13,by omega,rfl,?st13⟩;case st13=>(simp only [F75,seval];first|rfl|(simp;done))
 refine awN ?_;simp only [F75,seval,aU,hlt0];repeat refine ob ?_
 refine awF ?_;refine awQ ?_;simp only [F75,seval];refine awN ?_;simp only [F75,seval,aU,hlt0];repeat refine ob ?_
 refine awX ?_;(first|(simp only [F75,seval,aU,hlt0];done)|(simp only [F75,seval,aU];first|(simp [hlt0];done)))
def F76:=And.intro zS (And.intro tf1 (And.intro pn (And.intro tf4 (And.intro jS (And.intro xj (And.intro jT (And.intro tf7 (And.intro pi (And.intro jU (And.intro xd (And.intro vd (mf))))))))))))
theorem F77:type_of%F76:=F76
theorem KA (e:GEst) (he:e.claims.length<=1000000000000/\e.agrs.length<=1000000000000/\∀a∈e.agrs,a.length<=1000000000000/\∀t∈a,t.length<=1000000000000):ch prog 47 [.agg (bh e),.agg (bh e)] (one (.bool true)):=by
 have he1:=he.1;have he2:=he.2.1;refine bF func47 rfl (by decide) (N:=67) rfl (by simp) (R:=[.tmp 4]) rfl fun en k0=>?_
 refine awN ?_;simp only [F77,seval,bh];repeat refine ob ?_
 have hq:=KS e.cash;have hqv:=KT e.cash;refine awR [] [0,0,0,0,0,0,26,26,26,26,26,26,26,0,0,44,44,44,44,44,44,44,0] ?_;simp only [F77,seval,bh,hqv,decide_true,Bool.not_true,BEq.rfl];repeat refine ob ?_
 try refine ⟨hq,?_⟩
 repeat refine ob ?_
 refine awF ?_;refine awK ?_;simp only [F77,seval];refine awN ?_;simp only [F77,seval,bh];repeat refine ob ?_
 refine aQ [2,3,5] [2,3] ?_;try simp only [aq,F77,seval,bh]
 repeat' first|apply awS|apply awB
 refine aB (fun n st=>∃k nx,k<=e.claims.length/\n=e.claims.length-k/\st=⟨mkT [(2,.val (.one (.ptr 2 0 0))),(3,.val (.one (.ptr 3 1 0))),(5,one (.int .i64 k))],mkH [(2,⟨0,36,5,1,bh e⟩),(3,⟨1,36,5,1,bh e⟩)],nx,0⟩) (e.claims.length) ⟨0,_,by omega,by omega,rfl⟩ ?_;rintro n0 st ⟨k,nx0,hk0,rfl,rfl⟩;by_cases hlt0:(k:Int)<(e.claims.length:Int)
 ·refine awN ?_;simp only [F77,seval,bh,hlt0];repeat refine ob ?_
  refine awT ?_;refine awK ?_;simp only [F77,seval];have hk2:k<e.claims.length:=by omega
  have hat:=aO bX e.claims k hk2;have hq:=K2 e.claims[k];have hqv:=K3 e.claims[k];refine awD (scT 0 11 .nil) [0,0,0,0,0,0,0,0,0,0,0] ?_;simp only [F77,seval,bh,hlt0,hat,aA,hqv,decide_true,Bool.not_true,BEq.rfl];repeat refine ob ?_
  try refine ⟨hq,?_⟩
  repeat refine ob ?_
  refine awF ?_;refine awK ?_;simp only [F77,seval];refine awN ?_;simp only [F77,seval,bh,hlt0];repeat refine ob ?_
  repeat refine ob ?_
  refine ⟨_,aH [2,3,5] [2,3],e.claims.length-(k+1),by omega,k+1,?na7,by omega,rfl,?st7⟩;case st7=>(simp only [F77,seval];first|rfl|(simp;done))
 refine awN ?_;simp only [F77,seval,bh,hlt0];repeat refine ob ?_
 refine awF ?_;refine awQ ?_;simp only [F77,seval];refine awN ?_;simp only [F77,seval,bh,hlt0];repeat refine ob ?_
 refine aQ [2,3,6] [2,3] ?_;try simp only [aq,F77,seval,bh,hlt0]
 repeat' first|apply awS|apply awB
 refine aB (fun n st=>∃q nx,q<=e.agrs.length/\n=e.agrs.length-q/\st=⟨mkT [(2,.val (.one (.ptr 2 0 0))),(3,.val (.one (.ptr 3 1 0))),(6,one (.int .i64 q))],mkH [(2,⟨0,36,5,1,bh e⟩),(3,⟨1,36,5,1,bh e⟩)],nx,0⟩) (e.agrs.length) ⟨0,_,by omega,by omega,rfl⟩ ?_;rintro n1 st ⟨q,nx1,hk1,rfl,rfl⟩;by_cases hlt1:(q:Int)<(e.agrs.length:Int)
 ·refine awN ?_;simp only [F77,seval,bh,hlt0,hlt1];repeat refine ob ?_
  refine awT ?_;refine awK ?_;simp only [F77,seval];have hq2:q<e.agrs.length:=by omega
  have hatq:=aO dG e.agrs q hq2;rw [Nat.mul_one] at hatq;have hX:=Kz e.agrs[q] (he.2.2 _ (List.getElem_mem hq2));refine awD (scT 0 10 (scq [20,23] .nil)) [0,0,0,0,0,0,0,0,0,0,0,0] ?_;simp only [F77,seval,bh,hlt0,hlt1,hatq,aU,ab cA,decide_true,Bool.not_true,BEq.rfl];repeat refine ob ?_
  refine ⟨_,hX,rfl,?_⟩;try simp only [aq,F77,seval,bh,hlt0,hlt1,hatq,aU,ab cA,decide_true,Bool.not_true,BEq.rfl]
  repeat refine ob ?_
  refine awF ?_;refine awK ?_;simp only [F77,seval];refine awN ?_;simp only [F77,seval,bh,hlt0,hlt1];repeat refine ob ?_
  repeat refine ob ?_
  refine ⟨_,aH [2,3,6] [2,3],e.agrs.length-(q+1),by omega,q+1,?na13,by omega,rfl,?st13⟩;case st13=>(simp only [F77,seval];first|rfl|(simp;done))
 refine awN ?_;simp only [F77,seval,bh,hlt0,hlt1];repeat refine ob ?_
 refine awF ?_;refine awQ ?_;simp only [F77,seval];refine awN ?_;simp only [F77,seval,bh,hlt0,hlt1];repeat refine ob ?_
 refine awX ?_;(first|(simp only [F77,seval,bh,hlt0,hlt1];done)|(simp only [F77,seval,bh];first|(simp [hlt0,hlt1];done)))
def sgE (e:GEst):Prop:=e.claims.length<=1000000000000/\e.agrs.length<=1000000000000/\∀a∈e.agrs,a.length<=1000000000000/\∀t∈a,t.length<=1000000000000
def sgG (g:GGrp):Prop:=g.ests.length<=1000000000000/\(∀e∈g.ests,sgE e)/\g.debts.length<=1000000000000/\∀d∈g.debts,d.legs.length<=1000000000000
def F78:=And.intro zS (And.intro u6 (And.intro nK (And.intro pk (And.intro nL (And.intro yH (And.intro tw (And.intro nM (And.intro pl (And.intro pm (And.intro nN (And.intro tA (And.intro tB (mf)))))))))))))
theorem F79:type_of%F78:=F78
theorem J8 (g:GGrp) (hg:sgG g):ch prog 20 [.agg (au g),.agg (au g)] (one (.bool true)):=by
 have hg1:=hg.1;have hg2:=hg.2.2.1;refine bF func20 rfl (by decide) (N:=78) rfl (by simp) (R:=[.tmp 4]) rfl fun en k0=>?_
 refine awN ?_;simp only [F79,seval,au];repeat refine ob ?_
 refine awR [] [0,0,0,0,0,0,0,0,30,30,30,30,30,30,30,0] ?_;simp only [F79,seval,au,decide_true,Bool.not_true,BEq.rfl];repeat refine ob ?_
 refine awF ?_;refine awK ?_;simp only [F79,seval];refine awN ?_;simp only [F79,seval,au];repeat refine ob ?_
 refine aQ [2,3,5] [2,3] ?_;try simp only [aq,F79,seval,au]
 repeat' first|apply awS|apply awB
 refine aB (fun n st=>∃k nx,k<=g.ests.length/\n=g.ests.length-k/\st=⟨mkT [(2,.val (.one (.ptr 2 0 0))),(3,.val (.one (.ptr 3 1 0))),(5,one (.int .i64 k))],mkH [(2,⟨0,28,2,1,au g⟩),(3,⟨1,28,2,1,au g⟩)],nx,0⟩) (g.ests.length) ⟨0,_,by omega,by omega,rfl⟩ ?_;rintro n0 st ⟨k,nx0,hk0,rfl,rfl⟩;by_cases hlt0:(k:Int)<(g.ests.length:Int)
 ·refine awN ?_;simp only [F79,seval,au,hlt0];repeat refine ob ?_
  refine awT ?_;refine awK ?_;simp only [F79,seval];have hk2:k<g.ests.length:=by omega
  have hat:=aO de g.ests k hk2;have hX:=KA g.ests[k] (hg.2.1 _ (List.getElem_mem hk2));refine awD (scT 0 10 (scq [20,23] .nil)) [0,0,0,0,0,0,0,0,0,0,0,0] ?_;simp only [F79,seval,au,hlt0,hat,bh,ab bA,ab bg,decide_true,Bool.not_true,BEq.rfl];repeat refine ob ?_
  refine ⟨_,hX,(by first|rfl|simp [bu,aI,av,az,A1.cells,ab bA,ab bg]),?_⟩;try simp only [aq,F79,seval,au,hlt0,hat,bh,ab bA,ab bg,decide_true,Bool.not_true,BEq.rfl]
  repeat refine ob ?_
  refine awF ?_;refine awK ?_;simp only [F79,seval];refine awN ?_;simp only [F79,seval,au,hlt0];repeat refine ob ?_
  repeat refine ob ?_
  refine ⟨_,aH [2,3,5] [2,3],g.ests.length-(k+1),by omega,k+1,?na7,by omega,rfl,?st7⟩;case st7=>(simp only [F79,seval];first|rfl|(simp;done))
 refine awN ?_;simp only [F79,seval,au,hlt0];repeat refine ob ?_
 refine awF ?_;refine awQ ?_;simp only [F79,seval];refine awN ?_;simp only [F79,seval,au,hlt0];repeat refine ob ?_
 refine aQ [2,3,6] [2,3] ?_;try simp only [aq,F79,seval,au,hlt0]
 repeat' first|apply awS|apply awB
 refine aB (fun n st=>∃q nx,q<=g.debts.length/\n=g.debts.length-q/\st=⟨mkT [(2,.val (.one (.ptr 2 0 0))),(3,.val (.one (.ptr 3 1 0))),(6,one (.int .i64 q))],mkH [(2,⟨0,28,2,1,au g⟩),(3,⟨1,28,2,1,au g⟩)],nx,0⟩) (g.debts.length) ⟨0,_,by omega,by omega,rfl⟩ ?_;rintro n1 st ⟨q,nx1,hk1,rfl,rfl⟩;by_cases hlt1:(q:Int)<(g.debts.length:Int)
 ·refine awN ?_;simp only [F79,seval,au,hlt0,hlt1];repeat refine ob ?_
  refine awT ?_;refine awK ?_;simp only [F79,seval];have hq2:q<g.debts.length:=by omega
  have hatq:=aO dT g.debts q hq2;have hq:=KS g.debts[q].whole;have hqv:=KT g.debts[q].whole;have hX:=Kl g.debts[q].legs (hg.2.2.2 _ (List.getElem_mem hq2));refine awD (scT 0 26 (scq [52,55,57] .nil)) [0,0,0,0,0,0,0,0,0,0,0,0,0,0,126,126,126,126,126,126,126,126,126,126,126,126,126,126,0] ?_;simp only [F79,seval,au,hlt0,hlt1,hatq,cn,hqv,ab mN,decide_true,Bool.not_true,BEq.rfl];repeat refine ob ?_
  try refine ⟨hq,?_⟩
  repeat refine ob ?_
  refine ⟨_,hX,(by first|rfl|simp [bu,aI,av,az,A1.cells,ab mN]),?_⟩;try simp only [aq,F79,seval,hqv,hatq,cn]
  repeat refine ob ?_
  refine awF ?_;refine awK ?_;simp only [F79,seval];refine awN ?_;simp only [F79,seval,au,hlt0,hlt1];repeat refine ob ?_
  repeat refine ob ?_
  refine ⟨_,aH [2,3,6] [2,3],g.debts.length-(q+1),by omega,q+1,?na13,by omega,rfl,?st13⟩;case st13=>(simp only [F79,seval];first|rfl|(simp;done))
 refine awN ?_;simp only [F79,seval,au,hlt0,hlt1];repeat refine ob ?_
 refine awF ?_;refine awQ ?_;simp only [F79,seval];refine awN ?_;simp only [F79,seval,au,hlt0,hlt1];repeat refine ob ?_
 refine awX ?_;(first|(simp only [F79,seval,au,hlt0,hlt1];done)|(simp only [F79,seval,au];first|(simp [hlt0,hlt1];done)))
def prE (Q:GRat->Prop) (e:GEst):Prop:=Q e.cash/\(∀c∈e.claims,Q c.amount)/\∀a∈e.agrs,∀t∈a,∀p∈t,Q p.cap
section
variable {Q : GRat → Prop} (h0 : Q gZ) (h1 : ∀ x, Q (enc (cY x))) (h2 : ∀ n : Nat, n < 9 → Q (enc (((n : Nat) : Int) : Rat)))
include h0 h2
theorem L7 (e:GEst) (p:N3):∀t∈bgN e p,∀q∈t,Q q.cap:=by
 have k1:tOK (fun q=>Q q.cap) (bgT p (bgL e.agrs p e.claims 0 ⟨[],[],[]⟩)):=by
  have k2:=KP (Q:=fun q=>Q q.cap) e.agrs p e.claims.length (fun i _ _=>by
   unfold bgP;split
   ·exact h2 _ (Nat.mod_lt _ (by decide))
   exact h0) e.claims 0 ⟨[],[],[]⟩ (by omega) ⟨by simp,by simp,by simp⟩
  unfold bgT;split
  ·exact sv _ _ _ k2 (h2 _ (Nat.lt_of_lt_of_le (Nat.mod_lt _ (by decide)) (by decide)))
  exact k2
 intro t ht q hq;simp only [bgN,List.mem_cons,List.not_mem_nil,or_false] at ht;rcases ht with rfl|rfl|rfl
 ·exact k1.1 q hq
 ·exact k1.2.1 q hq
 exact k1.2.2 q hq
include h1
theorem LM (n:Nat) (cash:List Nat) (list:List N4) (pools:List N3):∀e∈iJ n cash list pools,prE Q e:=by
 unfold iJ;refine j4 (Pr:=fun es:List GEst=>∀e∈es,prE Q e) _ (fun es p h=>?_) _ _ (j4 (Pr:=fun es:List GEst=>∀e∈es,prE Q e) _ (fun es x h=>?_) _ _ fun e he=>?_)
 ·unfold fM;split
  ·refine KQ h _ _ fun hj=>?_
   rw [sD _ _ hj];obtain ⟨k1,k2,k3⟩:=h _ (List.getElem_mem hj);refine ⟨k1,k2,fun a ha=>?_⟩;rcases List.mem_append.1 ha with ha|ha
   ·exact k3 a ha
   obtain rfl:=List.mem_singleton.1 ha;exact L7 h0 h2 _ p
  exact h
 ·unfold aJ;split
  ·exact h
  refine KQ h _ _ fun hj=>?_
  rw [sD _ _ hj];obtain ⟨k1,k2,k3⟩:=h _ (List.getElem_mem hj);refine ⟨k1,fun c hc=>?_,k3⟩;rcases List.mem_append.1 hc with hc|hc
  ·exact k2 c hc
  obtain rfl:=List.mem_singleton.1 hc;exact h1 x.d
 obtain ⟨i,_,rfl⟩:=List.mem_map.1 he;refine ⟨?_,by simp [cZ],by simp [cZ]⟩;unfold cZ;dsimp only;split
 ·exact h1 _
 exact h0
theorem LN (n:Nat) (cash:List Nat) (list:List N4) (pools debts:List N3):∀d∈(vz n cash list pools debts).debts,Q d.whole:=by
 unfold vz;dsimp only;refine j4 (Pr:=fun ds:List GDebt=>∀d∈ds,Q d.whole) _ (fun ds p h=>?_) _ _ (by simp);unfold fN;split
 ·intro d hd;rcases List.mem_append.1 hd with hd|hd
  ·exact h d hd
  obtain rfl:=List.mem_singleton.1 hd;exact h1 p.c
 exact h
end
def xE (e:GEst):Prop:=okB e/\prE (sB 1) e
def xG (g:GGrp):Prop:=g.ests.length<=8/\(∀e∈g.ests,xE e)/\g.debts.length<=3/\∀d∈g.debts,sB 1 d.whole/\d.legs.length<=4
theorem Lx:sB 1 gZ:=⟨by decide,by decide⟩
theorem KU (n:Nat) (h:n<9):sB 1 (enc (((n:Nat):Int):Rat)):=by
 refine eH ⟨?_,?_⟩
 ·have:((((n:Nat):Int):Rat)).num=(n:Int):=rfl;rw [this];simp;omega
 have:((((n:Nat):Int):Rat)).den=1:=rfl;rw [this];decide
theorem L8 (n:Nat) (cash:List Nat) (list:List N4) (pools debts:List N3):xG (vz n cash list pools debts):=by
 obtain ⟨_,k2,k3⟩:=KO n cash list pools debts;have k4:=vR n cash list pools;have k5:=pM n cash list pools;have k6:=LM (Q:=sB 1) Lx (fun x=>eH (qK x)) KU n cash list pools;have k7:=LN (Q:=sB 1) Lx (fun x=>eH (qK x)) KU n cash list pools debts;exact ⟨by show (iJ n cash list pools).length<=8;omega,fun e he=>⟨k5 e he,k6 e he⟩,k2,fun d hd=>⟨k7 d hd,k3 d hd⟩⟩
theorem KV {r:GRat} (h:sB 1 r):cqR r:=⟨Nat.le_trans h.1 (by decide),Nat.le_trans h.2 (by decide)⟩
theorem KW {r:GRat} (h:sB 1 r):cO r:=⟨Nat.le_trans h.1 (by decide),Nat.le_trans h.2 (by decide)⟩
theorem LS {g:GGrp} (h:xG g):cqG g:=by
 obtain ⟨h1,h2,h3,h4⟩:=h;refine ⟨by omega,fun e he=>?_,by omega,fun d hd=>⟨KV (h4 d hd).1,by have:=(h4 d hd).2;omega⟩⟩;obtain ⟨⟨a1,a2,a3⟩,b1,b2,b3⟩:=h2 e he;exact ⟨KV b1,by omega,fun c hc=>KV (b2 c hc),by omega,fun a ha=>⟨by have:=(a3 a ha).1;omega,fun t ht=>⟨by have:=(a3 a ha).2 t ht;omega,fun p hp=>KV (b3 a ha t ht p hp)⟩⟩⟩
theorem Mv {g:GGrp} (h:xG g):xW g:=by
 obtain ⟨h1,h2,h3,h4⟩:=h;refine ⟨fun e he=>?_,fun d hd=>KW (h4 d hd).1⟩;obtain ⟨⟨a1,a2,a3⟩,b1,b2,b3⟩:=h2 e he;exact ⟨KW b1,fun c hc=>KW (b2 c hc),by omega,fun a ha=>⟨fun t ht=>by have:=(a3 a ha).2 t ht;omega,fun p hp=>by
  obtain ⟨t,ht,hp⟩:=List.mem_flatten.1 hp;exact KW (b3 a ha t ht p hp)⟩⟩
theorem Ly {Pr Pr':GEst->Prop} {es:List GEst} (f:GEst->GEst) (hf:∀e,Pr e->Pr' (f e)) (hm:∀e,Pr e->Pr' e) (j:Nat) (h:∀e∈es,Pr e):∀e∈upE es j f,Pr' e:=fun e he=>by
 unfold upE at he;obtain ⟨i,hi,rfl⟩:=List.getElem_of_mem he;rw [List.getElem_set];split
 ·rename_i hji;subst hji;have hj:j<es.length:=by simpa using hi
  rw [sD _ _ hj];exact hf _ (h _ (List.getElem_mem hj))
 exact hm _ (h _ (List.getElem_mem (by simpa using hi)))
def sgX (C:Nat) (e:GEst):Prop:=e.claims.length<=C/\e.agrs.length<=1000000000000/\∀a∈e.agrs,a.length<=1000000000000/\∀t∈a,t.length<=1000000000000
theorem Lz {C:Nat} {e:GEst} (h:sgX C e):sgX (C+1) e:=⟨Nat.le_succ_of_le h.1,h.2⟩
theorem LO {C:Nat} {es:List GEst} {est hold rank:Int} {amt:GRat} (h:∀e∈es,sgX C e):∀e∈zz es est hold rank amt,sgX (C+1) e:=by
 have h1:=Ly (Pr':=sgX C) (adE (qOf amt)) (fun e he=>he) (fun e he=>he) est.toNat h;have h2:∀e∈(if hold= -1 then upE es est.toNat (adE (qOf amt)) else upE (upE es est.toNat (adE (qOf amt))) hold.toNat (sbE (qOf amt))),sgX C e:=by
  split
  ·exact h1
  exact Ly (sbE (qOf amt)) (fun e he=>he) (fun e he=>he) hold.toNat h1
 unfold zz;dsimp only;split
 ·exact fun e he=>Lz (h2 e he)
 exact Ly (apE _) (fun e he=>⟨by have:=he.1;simp [apE];omega,he.2⟩) (fun e he=>Lz he) est.toNat h2
theorem KX:∀(l:List GRet) (es:List GEst) (C:Nat),(∀e∈es,sgX C e)->(∀e∈(m9 l es).1,sgX (C+l.length) e)/\(m9 l es).1.length<=es.length
 |[],es,C,h=>⟨h,Nat.le_refl _⟩
 |r::l,es,C,h=>by
  simp only [m9];split
  ·have h1:=KX l _ (C+1) (LO (est:=r.est) (hold:=r.holder) (rank:=r.rank) (amt:=r.amount) h);rw [Jz] at h1;refine ⟨fun e he=>?_,h1.2⟩;have:=h1.1 e he;rwa [show C+1+l.length=C+(r::l).length by simp;omega] at this
  exact ⟨by simp,by simp⟩
theorem L9 {C:Nat} {es:List GEst} (h:∀e∈es,sgX C e):∀e∈es.map clE,sgX C e:=fun e he=>by
 obtain ⟨e0,h0,rfl⟩:=List.mem_map.1 he;obtain ⟨a1,a2,a3⟩:=h e0 h0;refine ⟨by simpa [clE] using a1,by simpa [clE] using a2,fun a ha=>?_⟩;obtain ⟨b,hb,rfl⟩:=List.mem_map.1 ha;obtain ⟨b1,b2⟩:=a3 b hb;refine ⟨by simpa [clA] using b1,fun t ht=>?_⟩;obtain ⟨u,hu,rfl⟩:=List.mem_map.1 ht;simpa [clT] using b2 u hu
theorem Kn:sgG ⟨[],[]⟩:=⟨by simp,by simp,by simp,by simp⟩
theorem Ma (gc:Int) (g:GGrp) (l:List GRet) (hn:g.ests.length<=1000000) (he:∀e∈g.ests,sgX 900000 e) (hd:g.debts.length<=1000000) (hd2:∀d∈g.debts,d.legs.length<=1000000):sgG (rvS gc g l).1:=by
 unfold rvS;split
 ·split
  ·exact Kn
  split
  ·have h1:=KX l (g.ests.map clE) 900000 (L9 he);rw [List.length_map] at h1;refine ⟨by have:=h1.2;dsimp only;omega,fun e hx=>?_,by simp;omega,fun d hx=>?_⟩
   ·obtain ⟨a1,a2⟩:=h1.1 e hx;exact ⟨by omega,a2⟩
   obtain ⟨d0,h0,rfl⟩:=List.mem_map.1 hx;have:=hd2 d0 h0;show d0.legs.length<=_;omega
  exact Kn
 exact Kn
theorem Mw {g:GGrp} (h:xG g):(∀e∈g.ests,rvB 1000000 900000 e)/\(∀e∈g.ests,sgX 900000 e)/\g.ests.length<=8/\g.debts.length<=1000000/\∀d∈g.debts,d.legs.length<=1000000:=by
 obtain ⟨h1,h2,h3,h4⟩:=h;refine ⟨fun e he=>?_,fun e he=>?_,h1,by omega,fun d hd=>by have:=(h4 d hd).2;omega⟩
 ·obtain ⟨⟨a1,a2,a3⟩,b1,_⟩:=h2 e he;exact ⟨⟨Nat.le_trans b1.1 (by decide),Nat.le_trans b1.2 (by decide)⟩,by omega⟩
 obtain ⟨⟨a1,a2,a3⟩,_⟩:=h2 e he;exact ⟨by omega,by omega,fun a ha=>⟨by have:=(a3 a ha).1;omega,fun t ht=>by have:=(a3 a ha).2 t ht;omega⟩⟩
def F80:=And.intro zS (And.intro z6 (And.intro z8 (And.intro Ac (And.intro nL (And.intro Lh (And.intro nM (And.intro LC (And.intro LD (And.intro LE (And.intro nN (And.intro Li (And.intro Jy (And.intro yE (And.intro Ag (And.intro LP (And.intro u9 (And.intro yG (KJ))))))))))))))))))
theorem F81:type_of%F80:=F80
theorem K5 (g:GGrp) (n9:Nat) (hn9:n9=g.ests.length) (hn8:n9<=1000000) (l:List N4) (hln:l.length<=9223372036854775807) (hl:∀x∈l,x.a<65536/\x.b<65536/\x.c<65536/\x.d<65536) (H:Hp) (ny:Nat) (hbH:∀y B,H y=some B->y<200):dk prog 16 [.agg [.sh 5 n9 (ar bh g.ests),.sh 4 g.debts.length (ar cn g.debts)],.one (.sh 4 l.length (ar cN4 l)),.one (.lit (.bool false))] H ny
  (fun res H' _=>∃s rs,rs.length<=4/\(∀r∈rs,sB 1000000 r.amount)/\res= .val (.one (.own 281 s rs.length 6))/\H'=bW H [(281,⟨s,61,6,rs.length,ar di rs⟩)]):=by
 refine fm 200 func16 rfl (by decide) (N:=83) rfl (by simp) (Rl:=[.tmp 6]) rfl fun en k0=>?_
 refine awN ?_;simp only [F81,seval,au];repeat refine ob ?_
 refine awN ?_;simp only [F81,seval,au];repeat refine ob ?_
 refine awN ?_;simp only [F81,seval,au,au];repeat refine ob ?_
 refine awN ?_;simp only [F81,seval,au];repeat refine ob ?_
 refine rS 7 281 61 6 (by decide) (by rfl) ?_;simp only [F81,seval];refine aE H [1,2,7,8,9] [281] (by intro y B h;right;have h9:=hbH y B h;(try simp only [aj]);(repeat rw [if_neg (by omega)]);exact h) ?_;try simp only [aq,F81,seval,au]
 repeat' first|apply awS|apply awB
 refine aB (fun n st=>∃k s rs nx,k<=l.length/\k<=4/\n=4-k/\rs.length=k/\(∀r∈rs,sB 1000000 r.amount)/\st=⟨mkT [(1,.val (.one (.sh 4 l.length (ar cN4 l)))),(2,one (.bool false)),(7,.val (.one (.own 281 s k 6))),(8,one (.int .i64 n9)),(9,one (.int .i64 k))],bW H [(281,⟨s,61,6,k,ar di rs⟩)],nx,200⟩) (4) ⟨0,_,[],_,by omega,by omega,by omega,rfl,by simp,by simp only [F81,seval];first|rfl|(simp;done)⟩ ?_;rintro n0 st ⟨k,s,rs,nx0,hk,hk4,rfl,hrs,hrB,rfl⟩;by_cases hi0:(k:Int)<(l.length:Int)
 ·by_cases hi1:(k:Int)<(4:Int)
  ·by_cases hn0:(0:Int)<(n9:Int)
   ·refine awR [] [0,0,0,0,0,39,39,0,0,47,47,0] ?_;simp only [F81,seval,au,hi0,hi1,hn0];repeat refine ob ?_
    refine awT ?_;refine awK ?_;simp only [F81,seval];have hkl:k<l.length:=by omega
    have hat:=aO Kh l k hkl;have hq9:=hl _ (List.getElem_mem hkl);generalize l[k]=q at *
    obtain ⟨ha9,hb9,hc9,hd9⟩:=hq9;have w1:((q.a:Nat):Int).tmod (n9:Int)=((q.a%n9:Nat):Int):=Br q.a n9;have w2:((q.c:Nat):Int).tmod 3=((q.c%3:Nat):Int):=Br q.c 3;have w3:((q.c:Nat):Int).tmod 5=((q.c%5:Nat):Int):=Br q.c 5;have w4:((q.b:Nat):Int).tmod ((n9:Int)+1)=((q.b%(n9+1):Nat):Int):=by have:=Br q.b (n9+1);push_cast at this ⊢;exact this
    have hAm:=fL q.d hd9;simp only [cS] at hAm;have hm4:q.b%(n9+1)<n9+1:=Nat.mod_lt _ (by omega);have hm1:q.a%n9<n9:=Nat.mod_lt _ (by omega);refine awD (scT 0 21 (.two 21 23 (scq [45,46,48] .nil) (scq [42,45,48] .nil))) [0,0,0,0,0,0,0,0,0,0,0,0,0,0,0,0,0,0,0,0,0,0,0,0,0] ?_;simp only [F81,seval,au,hi0,hi1,hn0,hat,cN4,w1,w2,cS];repeat refine ob ?_
    refine ⟨?_,?_⟩
    ·repeat refine ob ?_
     refine ⟨_,hAm,rfl,?_⟩;try simp only [aq,F81,seval,au,hi0,hi1,hn0,hat,cN4,w1,w2,cS]
     repeat refine ob ?_
     by_cases h4:((q.c%5:Nat):Int)=4
     ·refine awN ?_;simp only [F81,seval,au,hi0,hi1,hn0,h4,hat,cN4,w3];repeat refine ob ?_
      refine awT ?_;refine awN ?_;simp only [F81,seval,au,hi0,hi1,hn0,h4];repeat refine ob ?_
      refine awN ?_;simp only [F81,seval,au,hi0,hi1,hn0,h4];repeat refine ob ?_
      refine awT ?_;refine awN ?_;simp only [F81,seval,au,hi0,hi1,hn0,h4,hat,cN4,w4];repeat refine ob ?_
      by_cases ht:((q.b%(n9+1):Nat):Int)-1=((q.a%n9:Nat):Int)
      ·refine awN ?_;simp only [F81,seval,au,hi0,hi1,hn0,h4,ht];repeat refine ob ?_
       refine awT ?_;refine awN ?_;simp only [F81,seval,au,hi0,hi1,hn0,h4,ht];repeat refine ob ?_
       refine awN ?_;simp only [F81,seval,au,hi0,hi1,hn0,h4,ht];repeat refine ob ?_
       refine awN ?_;simp only [F81,seval,au,hi0,hi1,hn0,h4,ht];repeat refine ob ?_
       repeat refine ob ?_
       refine ⟨_,bE H [1,2,7,8,9] [281] (by intro y B h;right;have h9:=hbH y B h;(try simp only [aj]);(repeat rw [if_neg (by omega)]);exact h),4-(k+1),by omega,k+1,?sa15,rs++[⟨((q.a%n9:Nat):Int),(-1),(-1),enc (cY q.d)⟩],?na15,by omega,by omega,rfl,by simp [hrs],?bd15,?st15⟩;case bd15=>
        intro r hr;rcases List.mem_append.1 hr with hr|hr
        ·exact hrB r hr
        obtain rfl:=List.mem_singleton.1 hr;have:=eH (qK q.d);exact ⟨Nat.le_trans this.1 (by decide),Nat.le_trans this.2 (by decide)⟩
       case st15=>(simp only [F81,seval,ay,di];first|rfl|(simp;done))
      refine awN ?_;simp only [F81,seval,au,hi0,hi1,hn0,h4,ht];repeat refine ob ?_
      refine awF ?_;refine awK ?_;simp only [F81,seval];refine awN ?_;simp only [F81,seval,au,hi0,hi1,hn0,h4,ht];repeat refine ob ?_
      refine awN ?_;simp only [F81,seval,au,hi0,hi1,hn0,h4,ht];repeat refine ob ?_
      repeat refine ob ?_
      refine ⟨_,bE H [1,2,7,8,9] [281] (by intro y B h;right;have h9:=hbH y B h;(try simp only [aj]);(repeat rw [if_neg (by omega)]);exact h),4-(k+1),by omega,k+1,?sa19,rs++[⟨((q.a%n9:Nat):Int),(((q.b%(n9+1):Nat):Int)-1),(-1),enc (cY q.d)⟩],?na19,by omega,by omega,rfl,by simp [hrs],?bd19,?st19⟩;case bd19=>
       intro r hr;rcases List.mem_append.1 hr with hr|hr
       ·exact hrB r hr
       obtain rfl:=List.mem_singleton.1 hr;have:=eH (qK q.d);exact ⟨Nat.le_trans this.1 (by decide),Nat.le_trans this.2 (by decide)⟩
      case st19=>(simp only [F81,seval,ay,di];first|rfl|(simp;done))
     refine awN ?_;simp only [F81,seval,au,hi0,hi1,hn0,h4,hat,cN4,w3];repeat refine ob ?_
     refine awF ?_;refine awK ?_;simp only [F81,seval];refine awN ?_;simp only [F81,seval,au,hi0,hi1,hn0,h4];repeat refine ob ?_
     refine awT ?_;refine awN ?_;simp only [F81,seval,au,hi0,hi1,hn0,h4,hat,cN4,w4];repeat refine ob ?_
     by_cases ht:((q.b%(n9+1):Nat):Int)-1=((q.a%n9:Nat):Int)
     ·refine awN ?_;simp only [F81,seval,au,hi0,hi1,hn0,h4,ht];repeat refine ob ?_
      refine awT ?_;refine awN ?_;simp only [F81,seval,au,hi0,hi1,hn0,h4,ht];repeat refine ob ?_
      refine awN ?_;simp only [F81,seval,au,hi0,hi1,hn0,h4,ht];repeat refine ob ?_
      refine awN ?_;simp only [F81,seval,au,hi0,hi1,hn0,h4,ht];repeat refine ob ?_
      repeat refine ob ?_
      refine ⟨_,bE H [1,2,7,8,9] [281] (by intro y B h;right;have h9:=hbH y B h;(try simp only [aj]);(repeat rw [if_neg (by omega)]);exact h),4-(k+1),by omega,k+1,?sa27,rs++[⟨((q.a%n9:Nat):Int),(-1),(2+((q.c%3:Nat):Int)),enc (cY q.d)⟩],?na27,by omega,by omega,rfl,by simp [hrs],?bd27,?st27⟩;case bd27=>
       intro r hr;rcases List.mem_append.1 hr with hr|hr
       ·exact hrB r hr
       obtain rfl:=List.mem_singleton.1 hr;have:=eH (qK q.d);exact ⟨Nat.le_trans this.1 (by decide),Nat.le_trans this.2 (by decide)⟩
      case st27=>(simp only [F81,seval,ay,di];first|rfl|(simp;done))
     refine awN ?_;simp only [F81,seval,au,hi0,hi1,hn0,h4,ht];repeat refine ob ?_
     refine awF ?_;refine awK ?_;simp only [F81,seval];refine awN ?_;simp only [F81,seval,au,hi0,hi1,hn0,h4,ht];repeat refine ob ?_
     refine awN ?_;simp only [F81,seval,au,hi0,hi1,hn0,h4,ht];repeat refine ob ?_
     repeat refine ob ?_
     refine ⟨_,bE H [1,2,7,8,9] [281] (by intro y B h;right;have h9:=hbH y B h;(try simp only [aj]);(repeat rw [if_neg (by omega)]);exact h),4-(k+1),by omega,k+1,?sa31,rs++[⟨((q.a%n9:Nat):Int),(((q.b%(n9+1):Nat):Int)-1),(2+((q.c%3:Nat):Int)),enc (cY q.d)⟩],?na31,by omega,by omega,rfl,by simp [hrs],?bd31,?st31⟩;case bd31=>
      intro r hr;rcases List.mem_append.1 hr with hr|hr
      ·exact hrB r hr
      obtain rfl:=List.mem_singleton.1 hr;have:=eH (qK q.d);exact ⟨Nat.le_trans this.1 (by decide),Nat.le_trans this.2 (by decide)⟩
     case st31=>(simp only [F81,seval,ay,di];first|rfl|(simp;done))
    repeat refine ob ?_
    refine ⟨_,hAm,rfl,?_⟩;try simp only [aq,F81,seval,au,hi0,hi1,hn0,hat,cN4,w1,w2,cS]
    repeat refine ob ?_
    by_cases h4:((q.c%5:Nat):Int)=4
    ·refine awN ?_;simp only [F81,seval,au,hi0,hi1,hn0,h4,hat,cN4,w3];repeat refine ob ?_
     refine awT ?_;refine awN ?_;simp only [F81,seval,au,hi0,hi1,hn0,h4];repeat refine ob ?_
     refine awN ?_;simp only [F81,seval,au,hi0,hi1,hn0,h4];repeat refine ob ?_
     refine awT ?_;refine awN ?_;simp only [F81,seval,au,hi0,hi1,hn0,h4,hat,cN4,w4];repeat refine ob ?_
     by_cases ht:((q.b%(n9+1):Nat):Int)-1=((q.a%n9:Nat):Int)
     ·refine awN ?_;simp only [F81,seval,au,hi0,hi1,hn0,h4,ht];repeat refine ob ?_
      refine awT ?_;refine awN ?_;simp only [F81,seval,au,hi0,hi1,hn0,h4,ht];repeat refine ob ?_
      refine awN ?_;simp only [F81,seval,au,hi0,hi1,hn0,h4,ht];repeat refine ob ?_
      refine awN ?_;simp only [F81,seval,au,hi0,hi1,hn0,h4,ht];repeat refine ob ?_
      repeat refine ob ?_
      refine ⟨_,bE H [1,2,7,8,9] [281] (by intro y B h;right;have h9:=hbH y B h;(try simp only [aj]);(repeat rw [if_neg (by omega)]);exact h),4-(k+1),by omega,k+1,?sa40,rs++[⟨((q.a%n9:Nat):Int),(-1),(-1),enc (cY q.d)⟩],?na40,by omega,by omega,rfl,by simp [hrs],?bd40,?st40⟩;case bd40=>
       intro r hr;rcases List.mem_append.1 hr with hr|hr
       ·exact hrB r hr
       obtain rfl:=List.mem_singleton.1 hr;have:=eH (qK q.d);exact ⟨Nat.le_trans this.1 (by decide),Nat.le_trans this.2 (by decide)⟩
      case st40=>(simp only [F81,seval,ay,di];first|rfl|(simp;done))
     refine awN ?_;simp only [F81,seval,au,hi0,hi1,hn0,h4,ht];repeat refine ob ?_
     refine awF ?_;refine awK ?_;simp only [F81,seval];refine awN ?_;simp only [F81,seval,au,hi0,hi1,hn0,h4,ht];repeat refine ob ?_
     refine awN ?_;simp only [F81,seval,au,hi0,hi1,hn0,h4,ht];repeat refine ob ?_
     repeat refine ob ?_
     refine ⟨_,bE H [1,2,7,8,9] [281] (by intro y B h;right;have h9:=hbH y B h;(try simp only [aj]);(repeat rw [if_neg (by omega)]);exact h),4-(k+1),by omega,k+1,?sa44,rs++[⟨((q.a%n9:Nat):Int),(((q.b%(n9+1):Nat):Int)-1),(-1),enc (cY q.d)⟩],?na44,by omega,by omega,rfl,by simp [hrs],?bd44,?st44⟩;case bd44=>
      intro r hr;rcases List.mem_append.1 hr with hr|hr
      ·exact hrB r hr
      obtain rfl:=List.mem_singleton.1 hr;have:=eH (qK q.d);exact ⟨Nat.le_trans this.1 (by decide),Nat.le_trans this.2 (by decide)⟩
     case st44=>(simp only [F81,seval,ay,di];first|rfl|(simp;done))
    refine awN ?_;simp only [F81,seval,au,hi0,hi1,hn0,h4,hat,cN4,w3];repeat refine ob ?_
    refine awF ?_;refine awK ?_;simp only [F81,seval];refine awN ?_;simp only [F81,seval,au,hi0,hi1,hn0,h4];repeat refine ob ?_
    refine awT ?_;refine awN ?_;simp only [F81,seval,au,hi0,hi1,hn0,h4,hat,cN4,w4];repeat refine ob ?_
    by_cases ht:((q.b%(n9+1):Nat):Int)-1=((q.a%n9:Nat):Int)
    ·refine awN ?_;simp only [F81,seval,au,hi0,hi1,hn0,h4,ht];repeat refine ob ?_
     refine awT ?_;refine awN ?_;simp only [F81,seval,au,hi0,hi1,hn0,h4,ht];repeat refine ob ?_
     refine awN ?_;simp only [F81,seval,au,hi0,hi1,hn0,h4,ht];repeat refine ob ?_
     refine awN ?_;simp only [F81,seval,au,hi0,hi1,hn0,h4,ht];repeat refine ob ?_
     repeat refine ob ?_
     refine ⟨_,bE H [1,2,7,8,9] [281] (by intro y B h;right;have h9:=hbH y B h;(try simp only [aj]);(repeat rw [if_neg (by omega)]);exact h),4-(k+1),by omega,k+1,?sa52,rs++[⟨((q.a%n9:Nat):Int),(-1),(2+((q.c%3:Nat):Int)),enc (cY q.d)⟩],?na52,by omega,by omega,rfl,by simp [hrs],?bd52,?st52⟩;case bd52=>
      intro r hr;rcases List.mem_append.1 hr with hr|hr
      ·exact hrB r hr
      obtain rfl:=List.mem_singleton.1 hr;have:=eH (qK q.d);exact ⟨Nat.le_trans this.1 (by decide),Nat.le_trans this.2 (by decide)⟩
     case st52=>(simp only [F81,seval,ay,di];first|rfl|(simp;done))
    refine awN ?_;simp only [F81,seval,au,hi0,hi1,hn0,h4,ht];repeat refine ob ?_
    refine awF ?_;refine awK ?_;simp only [F81,seval];refine awN ?_;simp only [F81,seval,au,hi0,hi1,hn0,h4,ht];repeat refine ob ?_
    refine awN ?_;simp only [F81,seval,au,hi0,hi1,hn0,h4,ht];repeat refine ob ?_
    repeat refine ob ?_
    refine ⟨_,bE H [1,2,7,8,9] [281] (by intro y B h;right;have h9:=hbH y B h;(try simp only [aj]);(repeat rw [if_neg (by omega)]);exact h),4-(k+1),by omega,k+1,?sa56,rs++[⟨((q.a%n9:Nat):Int),(((q.b%(n9+1):Nat):Int)-1),(2+((q.c%3:Nat):Int)),enc (cY q.d)⟩],?na56,by omega,by omega,rfl,by simp [hrs],?bd56,?st56⟩;case bd56=>
     intro r hr;rcases List.mem_append.1 hr with hr|hr
     ·exact hrB r hr
     obtain rfl:=List.mem_singleton.1 hr;have:=eH (qK q.d);exact ⟨Nat.le_trans this.1 (by decide),Nat.le_trans this.2 (by decide)⟩
    case st56=>(simp only [F81,seval,ay,di];first|rfl|(simp;done))
   refine awR [] [0,0,0,0,0,39,39,0,0,47,47,0] ?_;simp only [F81,seval,au,hi0,hi1,hn0];repeat refine ob ?_
   refine awF ?_;refine awQ ?_;simp only [F81,seval];refine awN ?_;simp only [F81,seval,au,hi0,hi1,hn0];repeat refine ob ?_
   refine aE H [6] [281] (by intro y B h;right;have h9:=hbH y B h;(try simp only [aj]);(repeat rw [if_neg (by omega)]);exact h) ?_;simp only [F81,seval];refine awX ?_;try simp only [F81,seval]
   subst hrs;exact ⟨s,rs,hk4,hrB,rfl,rfl⟩
  refine awR [] [0,0,0,0,0,39,39,0,0,47,47,0] ?_;simp only [F81,seval,au,hi0,hi1];repeat refine ob ?_
  refine awF ?_;refine awQ ?_;simp only [F81,seval];refine awN ?_;simp only [F81,seval,au,hi0,hi1];repeat refine ob ?_
  refine aE H [6] [281] (by intro y B h;right;have h9:=hbH y B h;(try simp only [aj]);(repeat rw [if_neg (by omega)]);exact h) ?_;simp only [F81,seval];refine awX ?_;try simp only [F81,seval]
  subst hrs;exact ⟨s,rs,hk4,hrB,rfl,rfl⟩
 refine awR [] [0,0,0,0,0,39,39,0,0,47,47,0] ?_;simp only [F81,seval,au,hi0];repeat refine ob ?_
 refine awF ?_;refine awQ ?_;simp only [F81,seval];refine awN ?_;simp only [F81,seval,au,hi0];repeat refine ob ?_
 refine aE H [6] [281] (by intro y B h;right;have h9:=hbH y B h;(try simp only [aj]);(repeat rw [if_neg (by omega)]);exact h) ?_;simp only [F81,seval];refine awX ?_;try simp only [F81,seval]
 subst hrs;exact ⟨s,rs,hk4,hrB,rfl,rfl⟩
inductive Tr (α:Type) where
 |leaf:Tr α
 |node (x:Option α) (l r:Tr α):Tr α
def Tr.seq {α β:Type} (t:Tr α) (k:Tr α->β):β:=match t with
 | .leaf=>k .leaf
 | .node x l r=>k (.node x l r)
theorem Tr.seq_eq {α β:Type} (t:Tr α) (k:Tr α->β):t.seq k=k t:=by cases t<;>rfl
def Tr.get {α:Type}:Tr α->Nat->Option α
 | .leaf,_=>none
 | .node x l r,n=>bif Nat.beq n 0 then x else bif Nat.beq (Nat.mod n 2) 1 then l.get (Nat.div n 2) else r.get (Nat.pred (Nat.div n 2))
def Tr.putF {α:Type} (y:Option α):Nat->Tr α->Nat->Tr α
 |0,t,_=>t
 |f+1,t,n=>match t with
  | .leaf=>bif Nat.beq n 0 then .node y .leaf .leaf else bif Nat.beq (Nat.mod n 2) 1 then (Tr.putF y f .leaf (Nat.div n 2)).seq fun l=> .node none l .leaf else (Tr.putF y f .leaf (Nat.pred (Nat.div n 2))).seq fun r=> .node none .leaf r
  | .node x l r=>bif Nat.beq n 0 then .node y l r else bif Nat.beq (Nat.mod n 2) 1 then (Tr.putF y f l (Nat.div n 2)).seq fun l'=> .node x l' r else (Tr.putF y f r (Nat.pred (Nat.div n 2))).seq fun r'=> .node x l r'
def Tr.put {α:Type} (t:Tr α) (n:Nat) (y:Option α):Tr α:=Tr.putF y (n+1) t n
theorem DX (n m:Nat):Nat.mod n m=n%m:=rfl
theorem DY (n m:Nat):Nat.div n m=n/m:=rfl
theorem CY (n:Nat):Nat.pred n=n-1:=by cases n<;>rfl
theorem Bt (n m:Nat):Nat.beq n m=decide (n=m):=by
 rw [Bool.eq_iff_iff,decide_eq_true_eq,Nat.beq_eq]
theorem Tr.get_leaf {α:Type} (m:Nat):(Tr.leaf:Tr α).get m=none:=rfl
theorem Tr.get_node {α:Type} (x:Option α) (l r:Tr α) (n:Nat):(Tr.node x l r).get n=if n=0 then x else if n%2=1 then l.get (n/2) else r.get (n/2-1):=by
 simp only [Tr.get,DX,DY,CY,Bt,cond_eq_ite,decide_eq_true_eq]
theorem Tr.get_putF {α:Type} (y:Option α):∀(f:Nat) (t:Tr α) (n m:Nat),n<f->(Tr.putF y f t n).get m=if m=n then y else t.get m
 |0,_,_,_,h=>by omega
 |f+1,.leaf,n,m,h=>by
  simp only [Tr.putF,DX,DY,CY,Bt,cond_eq_ite,decide_eq_true_eq,Tr.seq_eq];split
  ·rename_i h0;subst h0;rw [Tr.get_node,Tr.get_leaf,Tr.get_leaf,Tr.get_leaf];simp
  split
  ·rw [Tr.get_node,Tr.get_putF y f .leaf _ _ (by omega)];simp only [Tr.get_leaf];by_cases hm:m=n
   ·subst hm;rw [if_pos rfl,if_neg (by omega),if_pos (by omega),if_pos rfl]
   rw [if_neg hm];split<;>try rfl
   split<;>try rfl
   rw [if_neg (by omega)]
  rw [Tr.get_node,Tr.get_putF y f .leaf _ _ (by omega)];simp only [Tr.get_leaf];by_cases hm:m=n
  ·subst hm;rw [if_pos rfl,if_neg (by omega),if_neg (by omega),if_pos rfl]
  rw [if_neg hm];split<;>try rfl
  split<;>try rfl
  rw [if_neg (by omega)]
 |f+1,.node x l r,n,m,h=>by
  simp only [Tr.putF,DX,DY,CY,Bt,cond_eq_ite,decide_eq_true_eq,Tr.seq_eq];split
  ·rename_i h0;subst h0;rw [Tr.get_node,Tr.get_node];split<;>rfl
  split
  ·rw [Tr.get_node,Tr.get_node,Tr.get_putF y f l _ _ (by omega)];by_cases hm:m=n
   ·subst hm;rw [if_pos rfl,if_neg (by omega),if_pos (by omega),if_pos rfl]
   rw [if_neg hm];split<;>try rfl
   split<;>try rfl
   rw [if_neg (by omega)]
  rw [Tr.get_node,Tr.get_node,Tr.get_putF y f r _ _ (by omega)];by_cases hm:m=n
  ·subst hm;rw [if_pos rfl,if_neg (by omega),if_neg (by omega),if_pos rfl]
  rw [if_neg hm];split<;>try rfl
  split<;>try rfl
  rw [if_neg (by omega)]
theorem Tr.get_put {α:Type} (t:Tr α) (n:Nat) (y:Option α) (m:Nat):(t.put n y).get m=if m=n then y else t.get m:=Tr.get_putF y (n+1) t n m (by omega)
structure ES where
 tm:Tr AV
 H:Tr Blk
 nx:Nat
def ES.tmF (s:ES):Nat->AV:=fun t=>(s.tm.get t).getD .dead
def ES.hF (s:ES):Hp:=fun nm=>s.H.get nm
def ES.st (nb:Nat) (s:ES):St:=⟨s.tmF,s.hF,s.nx,nb⟩
def ES.putT (s:ES) (d:Nat) (x:AV):ES:=⟨s.tm.put d (some x),s.H,s.nx⟩
def ES.putH (s:ES) (nm:Nat) (B:Blk):ES:=⟨s.tm,s.H.put nm (some B),s.nx⟩
theorem ES.tmF_put (s:ES) (d:Nat) (x:AV):(s.putT d x).tmF=up s.tmF d x:=by
 funext t;simp only [ES.tmF,ES.putT,Tr.get_put,aj];split<;>rfl
theorem Ax (H:Tr Blk) (nm:Nat) (B:Option Blk):(fun n=>(H.put nm B).get n)=up (fun n=>H.get n) nm B:=by
 funext n;simp only [Tr.get_put,aj]
theorem ES.hF_put (s:ES) (nm:Nat) (B:Blk):(s.putH nm B).hF=up s.hF nm (some B):=Ax s.H nm (some B)
theorem Rel.nb {e:En} {k0:Kx} {N:Nat} {tm:Nat->AV} {H:Hp} {nx nb:Nat} {a:Act} {w:World} (hr:Rel e k0 N ⟨tm,H,nx,nb⟩ a w) (nb':Nat):Rel e k0 N ⟨tm,H,nx,nb'⟩ a w:=⟨hr.ex,hr.df,hr.sz⟩
theorem RW.later {e:En} {H:Hp} {nx nx':Nat} {σ:Nat->Value} {w:World} (h:RW e H nx σ w) (hn:nx<=nx'):RW e H nx' σ w/\Ext (kx e H nx σ w) (kx e H nx' σ w):=by
 have hext:Ext (kx e H nx σ w) (kx e H nx' σ w):=⟨hn,fun b hb=>⟨⟨hb.1,hb.2.1,hb.2.2⟩,rfl⟩,fun nm B hB=> .inr ⟨B,hB,rfl,rfl,rfl,rfl⟩⟩;exact ⟨⟨h.bel,h.hT,fun nm B hB=>⟨Nat.lt_of_lt_of_le (h.blk nm B hB).1 hn,(h.blk nm B hB).2.kept (row:=none) ⟨rfl,rfl,rfl,Nat.le_refl _,fun _ _ _=>rfl⟩ (Classical.em _) rfl rfl hext⟩,h.inj⟩,hext⟩
theorem Rel.later {e:En} {k0:Kx} {N:Nat} {tm:Nat->AV} {H:Hp} {nx nx' nb:Nat} {a:Act} {w:World} (hr:Rel e k0 N ⟨tm,H,nx,nb⟩ a w) (hn:nx<=nx'):Rel e k0 N ⟨tm,H,nx',nb⟩ a w:=by
 obtain ⟨σ,h1,h2,h3⟩:=hr.ex;obtain ⟨k1,k2⟩:=h1.later hn;exact ⟨⟨σ,k1,fun t=>dz k2 (h2 t),h3.trans k2⟩,hr.df,hr.sz⟩
def AH (st:St) (nm s:Nat):Bool:=match st.H nm with
 |some B=>Nat.beq B.st s
 |none=>false
theorem Jt {st:St} {nm s:Nat} (h:AH st nm s=true):∃B,st.H nm=some B/\B.st=s:=by
 unfold AH at h;split at h
 ·rename_i B hB;exact ⟨B,hB,Nat.eq_of_beq_eq_true h⟩
 cases h
def inB (n:Int):Bool:=decide (-9223372036854775808<=n)&&decide (n<=9223372036854775807)
theorem CZ {n:Int} (h:inB n=true):inK .i64 n:=by
 have h1:IntKind.i64.min= -9223372036854775808:=by decide
 have h2:IntKind.i64.max=9223372036854775807:=by decide
 unfold inB at h;simp only [Bool.and_eq_true,decide_eq_true_eq] at h;unfold inK;rw [h1,h2];exact h
def FV:IntKind->Bool
 | .i64=>true
 |_=>false
def qL (P:Program) (st:St):Op->Bool
 | .fieldAddr _ x _=>match ev st x with
  | .val (.one (.ptr nm s' _))=>AH st nm s'
  |_=>true
 | .indexAddr t x ix=>match ev st x,ev st ix,elT P t,arT P t with
  | .val (.one (.own nm s' n sz)),.val (.one (.lit (.int _ i))),some (_,sz',_),_=>Nat.beq sz sz'&&(decide (0<=i)&&(decide (i<n)&&AH st nm s'))
  | .val (.one (.sh sz n _)),.val (.one (.lit (.int _ i))),some (_,sz',_),_=>Nat.beq sz sz'&&(decide (0<=i)&&decide (i<n))
  | .val (.one (.ptr nm s' _)),.val (.one (.lit (.int _ i))),_,some (n,_,_)=>decide (0<=i)&&(decide (i<n)&&AH st nm s')
  | .val (.one (.sp _)),.val (.one (.lit (.int _ i))),_,some (n,_,_)=>decide (0<=i)&&decide (i<n)
  |_,_,_,_=>false
 | .load t x=>match ev st x,ldT P t with
  | .val (.one (.ptr nm s' off)),some (ag,sz)=>match st.H nm with
   |some B=>Nat.beq B.st s'&&(decide (off+sz<=B.cs.length)&&(ag||Nat.beq sz 1))
   |none=>false
  | .val (.one (.sp cs)),some (ag,sz)=>decide (sz<=cs.length)&&(ag||Nat.beq sz 1)
  |_,_=>false
 | .nilCheck x=>match ev st x with
  | .val (.one (.ptr nm s' _))=>AH st nm s'
  |_=>true
 |_=>false
section
variable {P : Program} {st : St} {p : Prop} {x : AV}
theorem C0 {ag:Bool} {sz:Nat} (h:(ag||Nat.beq sz 1)=true):ag=true∨sz=1:=by
 rcases Bool.or_eq_true_iff.1 h with h|h
 ·exact .inl h
 exact .inr (Nat.eq_of_beq_eq_true h)
theorem CB {op:Op} (hc:qL P st op=true) (h:im P st op=some (p,x)):p:=by
 cases op<;>simp only [qL,im,reduceCtorEq] at hc h;case fieldAddr s y f=>
  split at h<;>try (cases h;done)
  ·rename_i nm s' off o' ft he hf;rw [he] at hc;simp only [Option.some.injEq,Prod.mk.injEq] at h;rw [←h.1];exact Jt hc
  simp only [Option.some.injEq,Prod.mk.injEq] at h;rw [←h.1];trivial
 case indexAddr t y ix=>
  split at h<;>try (cases h;done)
  all_goals
   rename_i h1 h2 h3;simp only [Option.some.injEq,Prod.mk.injEq] at h;obtain ⟨rfl,_⟩:=h
  ·rw [h1,h2,h3] at hc;simp only [Bool.and_eq_true,decide_eq_true_eq] at hc;exact ⟨Nat.eq_of_beq_eq_true hc.1,hc.2.1,hc.2.2.1,Jt hc.2.2.2⟩
  ·rw [h1,h2,h3] at hc;simp only [Bool.and_eq_true,decide_eq_true_eq] at hc;exact ⟨Nat.eq_of_beq_eq_true hc.1,hc.2.1,hc.2.2⟩
  ·rw [h1,h2,h3] at hc;simp only [Bool.and_eq_true,decide_eq_true_eq] at hc;exact ⟨hc.1,hc.2.1,Jt hc.2.2⟩
  rw [h1,h2,h3] at hc;simp only [Bool.and_eq_true,decide_eq_true_eq] at hc;exact hc
 case load t y=>
  split at h<;>try (cases h;done)
  ·rename_i h1 h2;rw [h1,h2] at hc;split at h<;>try (cases h;done)
   rename_i B hB;simp only [hB,Bool.and_eq_true,decide_eq_true_eq] at hc;simp only [Option.some.injEq,Prod.mk.injEq] at h;obtain ⟨rfl,_⟩:=h;exact ⟨Nat.eq_of_beq_eq_true hc.1,hc.2.1,C0 hc.2.2⟩
  rename_i h1 h2;rw [h1,h2] at hc;simp only [Bool.and_eq_true,decide_eq_true_eq] at hc;simp only [Option.some.injEq,Prod.mk.injEq] at h;obtain ⟨rfl,_⟩:=h;exact ⟨hc.1,C0 hc.2⟩
 case nilCheck y=>
  split at h<;>try (cases h;done)
  ·rename_i h1;rw [h1] at hc;simp only [Option.some.injEq,Prod.mk.injEq] at h;rw [←h.1];exact Jt hc
  simp only [Option.some.injEq,Prod.mk.injEq] at h;rw [←h.1];trivial
end
def Bd (P:Program) (t:TypeId):Bool:=match P.underlying t with
 |some .bool=>true
 |_=>false
theorem BM {P:Program} {t:TypeId} (h:Bd P t=true):P.underlying t=some .bool:=by
 unfold Bd at h;split at h
 ·assumption
 cases h
def AI (P:Program) (t:TypeId):Bool:=match P.underlying t with
 |some .string=>true
 |_=>false
theorem q9 {P:Program} {t:TypeId} (h:AI P t=true):P.underlying t=some .string:=by
 unfold AI at h;split at h
 ·assumption
 cases h
def Cf (P:Program) (op:BinOp) (t:TypeId):Value->Value->Bool
 | .int k a,.int _ b=>match op with
  | .shl=>decide (0<=b)
  | .shr=>decide (0<=b)
  | .add=> !(FV k)||inB (a+b)
  | .sub=> !(FV k)||inB (a-b)
  | .mul=> !(FV k)||inB (a*b)
  | .quo=> !(decide (b=0))
  | .rem=> !(decide (b=0))
  |_=>true
 | .bool _,.bool _=>Bd P t
 |_,_=>true
section
variable {P : Program} {st : St} {p : Prop} {x : AV}
theorem Cg {k:IntKind} {n:Int} {β:Type} {v v' x':β} {q:Prop} (hc:(!(FV k)||inB n)=true) (h:(if k= .i64 then some (inK k n,v) else some (True,v'))=some (q,x')):q:=by
 split at h
 ·rename_i hk;subst hk;simp only [Option.some.injEq,Prod.mk.injEq] at h;rw [←h.1];exact CZ (by simpa [FV] using hc)
 simp only [Option.some.injEq,Prod.mk.injEq] at h;rw [←h.1];trivial
theorem C3 {op:BinOp} {t:TypeId} {u v r:Value} (hc:Cf P op t u v=true) (h:kF P op t u v=some (p,r)):p:=by
 cases u<;>try (simp only [kF] at h;cases h;done)
 ·cases v<;>try (simp only [kF] at h;cases h;done)
  simp only [Cf] at hc;cases op<;>simp only [kF] at h<;>try (cases h;done)
  all_goals
   simp only [Option.some.injEq,Prod.mk.injEq] at h;rw [←h.1];exact BM hc
 ·cases v<;>try (simp only [kF] at h;cases h;done)
  cases op<;>simp only [kF,Cf,decide_eq_true_eq,Bool.not_eq_true',decide_eq_false_iff_not] at h hc;all_goals try (simp only [Option.some.injEq,Prod.mk.injEq] at h;rw [←h.1];first|exact hc|trivial)
  all_goals (split at h;· cases h)
  all_goals first
   |exact Cg hc h
   |(simp only [Option.some.injEq,Prod.mk.injEq] at h;rw [←h.1];first|exact hc|trivial)
   |cases h
 cases v<;>try (simp only [kF] at h;cases h;done)
 cases op<;>simp only [kF] at h<;>try (cases h;done)
 all_goals (simp only [Option.some.injEq,Prod.mk.injEq] at h;rw [←h.1];trivial)
end
def JG (st:St):Option Operand->Bool
 |none=>true
 |some x=>match ev st x with
  | .val (.one (.lit (.int _ i)))=>decide (0<=i)
  |_=>false
theorem dr {st:St} {x:Option Operand} {d n:Nat} {p:Prop} (hc:JG st x=true) (h:bnd st x d=some (p,n)):p:=by
 unfold bnd at h;split at h
 ·simp only [Option.some.injEq,Prod.mk.injEq] at h;rw [←h.1];trivial
 rename_i y;simp only [JG] at hc;split at h<;>try (cases h;done)
 rename_i he;rw [he] at hc;simp only [Option.some.injEq,Prod.mk.injEq] at h;rw [←h.1];exact of_decide_eq_true hc
def AJ (place:Nat->Option (Nat×Nat)):List C->List (Nat×AV)->Bool
 |_,[]=>true
 |cs,(i,x)::rest=>match place i,cellsOf x with
  |some (off,size),some ds=>Nat.beq ds.length size&&(decide (off+size<=cs.length)&&AJ place (spl cs off ds) rest)
  |_,_=>false
theorem rk {place:Nat->Option (Nat×Nat)}:∀{parts:List (Nat×AV)} {cs r:List C} {p:Prop},AJ place cs parts=true->j6 place cs parts=some (p,r)->p
 |[],cs,r,p,_,h=>by
  simp only [j6,Option.some.injEq,Prod.mk.injEq] at h;rw [←h.1];trivial
 |(i,x)::rest,cs,r,p,hc,h=>by
  simp only [j6] at h;simp only [AJ] at hc;split at h<;>try (cases h;done)
  rename_i off size ds h1 h2;rw [h1,h2] at hc;simp only [Bool.and_eq_true,decide_eq_true_eq] at hc;split at h<;>try (cases h;done)
  rename_i q r' h3;simp only [Option.some.injEq,Prod.mk.injEq] at h;rw [←h.1];exact ⟨⟨Nat.eq_of_beq_eq_true hc.1,hc.2.1⟩,rk hc.2.2 h3⟩
def Ch (P:Program) (eqT:TypeId->List Value->List Value->Bool) (st:St):Op->Bool
 | .move _=>true
 | .assign _=>true
 | .pick .. =>true
 | .field xt x f=>match ev st x,foT P xt f with
  | .val (.agg cs),some (o,ft)=>match ldT P ft with
   |some (ag,sz)=>decide (o+sz<=cs.length)&&(ag||Nat.beq sz 1)
   |none=>false
  |_,_=>false
 | .extract .. =>true
 | .binOp op t x y _=>match ev st x,ev st y with
  | .val (.one (.lit u)),.val (.one (.lit v))=>Cf P op t u v
  | .val (.agg xs),.val (.agg ys)=>match zn xs,zn ys with
   |some us,some vs=>eqT t us vs
   |_,_=>false
  |_,_=>false
 | .unOp .not _ _=>true
 | .unOp .neg _ x=>match ev st x with
  | .val (.one (.lit (.int k n)))=> !(FV k)||inB (0-n)
  |_=>false
 | .convert s d x=>match ev st x,P.underlying d with
  | .val (.one (.lit (.int _ n))),some (.int k)=>(!(FV k)||inB n)&&(P.underlying s).isSome
  |_,_=>false
 | .index t x ix=>match ev st x,ev st ix with
  | .val (.one (.lit (.string s))),.val (.one (.lit (.int _ i)))=>AI P t&&(decide (0<=i)&&decide (i<s.size))
  | .val (.agg cs),.val (.one (.lit (.int _ i)))=>match arT P t with
   |some (n,e,sz)=>match ldT P e with
    |some (ag,sz')=>decide (0<=i)&&(decide (i<n)&&(Nat.beq sz' sz&&(decide (i.toNat*sz+sz<=cs.length)&&(ag||Nat.beq sz 1))))
    |none=>false
   |none=>false
  |_,_=>false
 | .slice t x lo hi none=>match ev st x with
  | .val (.one (.sh sz n _))=>match elT P t,bnd st lo 0,bnd st hi n with
   |some (_,sz',_),some (_,l),some (_,h)=>Nat.beq sz sz'&&(JG st lo&&(JG st hi&&(decide (l<=h)&&decide (h<=n))))
   |_,_,_=>false
  | .val (.one (.lit (.string s)))=>match bnd st lo 0,bnd st hi s.size with
   |some (_,l),some (_,h)=>AI P t&&(JG st lo&&(JG st hi&&(decide (l<=h)&&decide (h<=s.size))))
   |_,_=>false
  |_=>false
 |_=>false
section
variable {P : Program} {eqT : TypeId → List Value → List Value → Bool} {st : St} {p : Prop} {x : AV}
theorem Bu (heq:∀t us vs,eqT t us vs=true->zg P t us vs) {op:Op} (hc:Ch P eqT st op=true) (h:jl P st op=some (p,x)):p:=by
 cases op<;>simp only [Ch,jl,reduceCtorEq] at hc h;case move=>simp only [Option.some.injEq,Prod.mk.injEq] at h;rw [←h.1];trivial
 case assign=>simp only [Option.some.injEq,Prod.mk.injEq] at h;rw [←h.1];trivial
 case pick=>
  split at h<;>try (cases h;done)
  simp only [Option.some.injEq,Prod.mk.injEq] at h;rw [←h.1];trivial
 case field xt y f=>
  split at h<;>try (cases h;done)
  rename_i h1 h2;rw [h1,h2] at hc;split at h<;>try (cases h;done)
  rename_i h3;simp only [h3,Bool.and_eq_true,decide_eq_true_eq] at hc;simp only [Option.some.injEq,Prod.mk.injEq] at h;rw [←h.1];exact ⟨hc.1,C0 hc.2⟩
 case extract=>
  split at h<;>try (cases h;done)
  split at h<;>try (cases h;done)
  simp only [Option.some.injEq,Prod.mk.injEq] at h;rw [←h.1];trivial
 case binOp op t y z yt=>
  split at h<;>try (cases h;done)
  ·rename_i u v h1 h2;rw [h1,h2] at hc;split at h<;>try (cases h;done)
   rename_i q r h3;simp only [Option.some.injEq,Prod.mk.injEq] at h;rw [←h.1];exact C3 hc h3
  rename_i xs ys h1 h2;rw [h1,h2] at hc;split at h<;>try (cases h;done)
  rename_i us vs h3 h4;simp only [h3,h4] at hc;split at h<;>try (cases h;done)
  ·simp only [Option.some.injEq,Prod.mk.injEq] at h;rw [←h.1];exact heq _ _ _ hc
  simp only [Option.some.injEq,Prod.mk.injEq] at h;rw [←h.1];exact heq _ _ _ hc
 case unOp op t y=>
  cases op<;>simp only [reduceCtorEq] at hc h
  ·split at h<;>try (cases h;done)
   rename_i h1;rw [h1] at hc;exact Cg hc h
  split at h<;>try (cases h;done)
  simp only [Option.some.injEq,Prod.mk.injEq] at h;rw [←h.1];trivial
 case convert s d y=>
  split at h<;>try (cases h;done)
  rename_i k0 n k h1 h2;rw [h1,h2] at hc;simp only [Bool.and_eq_true] at hc;split at h
  ·rename_i hk;subst hk;simp only [Option.some.injEq,Prod.mk.injEq] at h;rw [←h.1];exact ⟨CZ (by simpa [FV] using hc.1),hc.2⟩
  simp only [Option.some.injEq,Prod.mk.injEq] at h;rw [←h.1];exact hc.2
 case index t y ix=>
  split at h<;>try (cases h;done)
  ·rename_i h1 h2;rw [h1,h2] at hc;simp only [Bool.and_eq_true,decide_eq_true_eq] at hc;simp only [Option.some.injEq,Prod.mk.injEq] at h;rw [←h.1];exact ⟨q9 hc.1,hc.2.1,hc.2.2⟩
  rename_i h1 h2;rw [h1,h2] at hc;split at h<;>try (cases h;done)
  rename_i h3;split at h<;>try (cases h;done)
  rename_i h4;simp only [h3,h4,Bool.and_eq_true,decide_eq_true_eq] at hc;simp only [Option.some.injEq,Prod.mk.injEq] at h;rw [←h.1];exact ⟨hc.1,hc.2.1,Nat.eq_of_beq_eq_true hc.2.2.1,hc.2.2.2.1,C0 hc.2.2.2.2⟩
 case slice t y lo hi mx=>
  cases mx<;>simp only [reduceCtorEq] at hc h;split at h<;>try (cases h;done)
  ·rename_i h1;rw [h1] at hc;split at h<;>try (cases h;done)
   rename_i h2 h3 h4;simp only [h2,h3,h4,Bool.and_eq_true,decide_eq_true_eq] at hc;simp only [Option.some.injEq,Prod.mk.injEq] at h;rw [←h.1];exact ⟨Nat.eq_of_beq_eq_true hc.1,dr hc.2.1 h3,dr hc.2.2.1 h4,hc.2.2.2.1,hc.2.2.2.2⟩
  rename_i h1;rw [h1] at hc;split at h<;>try (cases h;done)
  rename_i h3 h4;simp only [h3,h4,Bool.and_eq_true,decide_eq_true_eq] at hc;simp only [Option.some.injEq,Prod.mk.injEq] at h;rw [←h.1];exact ⟨q9 hc.1,dr hc.2.1 h3,dr hc.2.2.1 h4,hc.2.2.2.1,hc.2.2.2.2⟩
end
def C4 (P:Program) (st:St) (c:Call):Bool:=match c.args.toList,c.argTypes.toList with
 |[x],[t]=>match ev st x with
  | .val (.one (.lit (.string _)))=>AI P t
  | .val (.one (.own nm s' _ sz))=> !(Nat.beq sz 0)&&AH st nm s'
  |_=>true
 |_,_=>false
def ckB (P:Program) (eqT:TypeId->List Value->List Value->Bool) (st:St) (op:Op):Bool:=match op with
 | .build t parts=>match zrT P t,plT P t with
  |some zs,some ps=>AJ (fun i=>ps[i]?) (zs.map .lit) (parts.toList.map fun q=>(q.1,ev st q.2))
  |_,_=>false
 | .lookup .. =>false
 | .slice t x lo hi none=>(match ev st x with
  | .val (.one (.lit (.slice none 0 0)))=>match bnd st lo 0,bnd st hi 0 with
   |some (_,l),some (_,h)=>JG st lo&&(JG st hi&&(Nat.beq l 0&&Nat.beq h 0))
   |_,_=>false
  |_=>Ch P eqT st (.slice t x lo hi none))
 | .call {callee:= .builtin .cap,..}=>true
 | .call {callee:= .builtin .min,..}=>true
 | .call {callee:= .builtin .max,..}=>true
 | .call {callee:= .builtin .len,args,argTypes}=>C4 P st {callee:= .builtin .len,args,argTypes}
 | .fieldAddr s x f=>qL P st (.fieldAddr s x f)
 | .indexAddr t x i=>qL P st (.indexAddr t x i)
 | .load t x=>qL P st (.load t x)
 | .nilCheck x=>qL P st (.nilCheck x)
 |op=>Ch P eqT st op
section
variable {P : Program} {eqT : TypeId → List Value → List Value → Bool} {st : St} {p : Prop} {x : AV}
theorem C5 {args:Array Operand} {argTypes:Array TypeId} (hc:C4 P st {callee:= .builtin .len,args,argTypes}=true) (h:io P st {callee:= .builtin .len,args,argTypes}=some (p,x)):p:=by
 simp only [io] at h;simp only [C4] at hc;split at h<;>try (cases h;done)
 rename_i y t h1 h2;simp only [h1,h2] at hc;split at h
 ·rename_i h3;rw [h3] at hc;simp only [Option.some.injEq,Prod.mk.injEq] at h;rw [←h.1];exact q9 hc
 split at h<;>try (cases h;done)
 simp only [Option.some.injEq,Prod.mk.injEq] at h;rw [←h.1];split
 ·rename_i h3;rw [h3] at hc;simp only [Bool.and_eq_true,Bool.not_eq_true'] at hc;refine ⟨fun h0=>?_,Jt hc.2⟩;subst h0;exact absurd hc.1 (by decide)
 trivial
theorem DZ (heq:∀t us vs,eqT t us vs=true->zg P t us vs) {op:Op} (hc:ckB P eqT st op=true) (h:d8 P st op=some (p,x)):p:=by
 unfold d8 at h;split at h
 ·unfold gx at h;simp only [ckB] at hc;split at h<;>try (cases h;done)
  rename_i h1 h2;simp only [h1,h2] at hc;split at h<;>try (cases h;done)
  rename_i h3;simp only [Option.some.injEq,Prod.mk.injEq] at h;rw [←h.1];exact rk hc h3
 ·simp [ckB] at hc
 ·rename_i t y lo hi;simp only [ckB] at hc;unfold orS at h;split at h
  ·rename_i r hn;obtain rfl:=Option.some.inj h;unfold jp at hn;split at hn<;>try (cases hn;done)
   rename_i h1 h2 h3 h4;simp only [h1,h3,h4,Bool.and_eq_true] at hc;simp only [Option.some.injEq,Prod.mk.injEq] at hn;rw [←hn.1];exact ⟨dr hc.1 h3,dr hc.2.1 h4,Nat.eq_of_beq_eq_true hc.2.2.1,Nat.eq_of_beq_eq_true hc.2.2.2⟩
  have h':jl P st (.slice t y lo hi none)=some (p,x):=h;split at hc
  ·rename_i he;simp only [jl,he] at h';cases h'
  exact Bu heq hc h'
 ·unfold jn at h;split at h<;>try (cases h;done)
  split at h<;>try (cases h;done)
  simp only [Option.some.injEq,Prod.mk.injEq] at h;rw [←h.1];trivial
 ·unfold jo at h;split at h<;>try (cases h;done)
  split at h<;>try (cases h;done)
  simp only [Option.some.injEq,Prod.mk.injEq] at h;rw [←h.1];trivial
 ·unfold jo at h;split at h<;>try (cases h;done)
  split at h<;>try (cases h;done)
  simp only [Option.some.injEq,Prod.mk.injEq] at h;rw [←h.1];trivial
 rename_i h1 h2 h3 h4 h5 h6;cases op with
 |call c=>
  obtain ⟨callee,args,argTypes⟩:=c;have h0:=h;simp only [og,io] at h0;split at h0<;>try (cases h0;done)
  exact C5 hc h
 |build t ps=>exact (h1 t ps rfl).elim
 |lookup t m k ok=>exact (h2 t m k ok rfl).elim
 |slice t y lo hi mx=>
  cases mx with
  |none=>exact (h3 t y lo hi rfl).elim
  |some mx=>
   simp only [og,jl,reduceCtorEq] at h
 |_=>
  simp only [ckB] at hc;simp only [og] at h;first
   |exact CB hc h
   |exact Bu heq hc h
end
def AX:AV->Option (Nat×Nat×Nat×Nat×Nat)
 | .val (.one (.own nm s n sz))=>some (nm,s,0,n,sz)
 | .val (.one (.vw nm s off n sz))=>some (nm,s,off,n,sz)
 |_=>none
section
variable {P : Program} {e : En} {k0 : Kx} {N : Nat} {st : St} {a : Act} {w : World} {σ : Nat → Value} {o : Oper} {x : AV}
theorem JP (hW:RW e st.H st.nx σ w) {v:Value} {y:AV} {nm s off n sz:Nat} (hv:aG (kx e st.H st.nx σ w) v y) (hy:AX y=some (nm,s,off,n,sz)) {B:Blk} (hB:st.H nm=some B) (hs:B.st=s) (hsz:sz≠0):
  ∃ad cap xs,v= .slice ad n cap/\n<=cap/\cap<=maxLen/\B.sz=sz/\off+n<=B.n/\(off=0->σ nm= .slice ad B.n cap)/\(n=0∨∃b,(σ nm).ownBlock=some b/\ad=some ⟨b,off*sz,none⟩)/\
   B.cs.length=B.n*B.sz/\w.ownsRow e.w0.heap.size B.E B.sz (σ nm) B.n xs/\denVs (kx e st.H st.nx σ w) xs B.cs/\(ad=none->cap=0):=by
 have row:B.sz=sz->∃ad cap xs,σ nm= .slice ad B.n cap/\B.n<=cap/\cap<=maxLen/\(B.n=0∨∃b,(σ nm).ownBlock=some b/\ad=some ⟨b,0,none⟩)/\B.cs.length=B.n*B.sz/\w.ownsRow e.w0.heap.size B.E B.sz (σ nm) B.n xs/\denVs (kx e st.H st.nx σ w) xs B.cs/\(ad=none->cap=0):=fun hz=>by
  obtain ⟨_,h2,xs,h3,h4⟩:=hW.rowOf hB (.inl (by rw [hz];exact hsz));rcases h3.2 with ⟨q1,q2⟩|⟨g,cap,cur,q1,q2,q3,q4,q5,q6,q7⟩
  ·exact ⟨none,0,xs,by rw [q2];exact q1,by omega,by unfold maxLen;omega,.inl q2,h2,h3,h4,fun _=>rfl⟩
  exact ⟨_,cap,xs,q1,q4,q5,.inr ⟨g,by rw [q1];rfl,rfl⟩,h2,h3,h4,fun h=>by cases h⟩
 unfold AX at hy;split at hy<;>try (cases hy;done)
 ·simp only [Option.some.injEq,Prod.mk.injEq] at hy;obtain ⟨rfl,rfl,rfl,rfl,rfl⟩:=hy;simp only [aG,bb,den] at hv;obtain ⟨h1,h2,h3⟩:=hv.2.2 B hB hs;obtain ⟨ad,cap,xs,r1,r2,r3,r4,r5⟩:=row h3;subst h2;exact ⟨ad,cap,xs,h1.trans r1,r2,r3,h3,by omega,fun _=>r1,by simpa using r4,r5⟩
 simp only [Option.some.injEq,Prod.mk.injEq] at hy;obtain ⟨rfl,rfl,rfl,rfl,rfl⟩:=hy;simp only [aG,bb,den] at hv;obtain ⟨ad,cap,h1,h2,h3,h6,h4,h5⟩:=hv;obtain ⟨k1,k2,k3⟩:=h5 B hB hs;obtain ⟨ad',cap',xs,r1,r2,r3,r4,r5⟩:=row k1;rcases k3 with ⟨k3,k4⟩|⟨k3,k4⟩
 ·subst k3;have k4':σ _= .slice ad B.n cap:=k4;rw [r1] at k4';simp only [Value.slice.injEq,true_and] at k4';obtain ⟨rfl,rfl⟩:=k4';refine ⟨_,_,xs,h1,h2,h3,k1,k2,fun _=>r1,?_,r5⟩;rcases r4 with r4|⟨b,q1,q2⟩
  ·exact .inl (by omega)
  exact .inr ⟨b,q1,by simpa using q2⟩
 exact ⟨ad,cap,xs,h1,h2,h3,k1,k2,fun h=>(k3 h).elim,k4,r5.1,r5.2.1,r5.2.2.1,h6⟩
end
def shs:List A1->List (Option Nat)
 |[]=>[]
 | .one _::l=>none::shs l
 | .agg cs::l=>some cs.length::shs l
def css:List A1->List C
 |[]=>[]
 | .one c::l=>c::css l
 | .agg cs::l=>cs++css l
def CC:List (Option Nat)->List C->List A1
 |none::s,c::cs=> .one c::CC s cs
 |some k::s,cs=> .agg (cs.take k)::CC s (cs.drop k)
 |_,_=>[]
theorem BO {κ:Kx}:∀{l:List A1} {vs:List Value},cz κ vs l->∃us,shp (shs l) vs us/\denVs κ us (css l)
 |[],[],_=>⟨[],rfl,trivial⟩
 |[],_::_,h=>h.elim
 |_::_,[],h=>h.elim
 | .one c::l,v::vs,h=>by
  obtain ⟨us,h1,h2⟩:=BO h.2;exact ⟨v::us,⟨us,rfl,h1⟩,h.1,h2⟩
 | .agg cs::l,v::vs,h=>by
  obtain ⟨us,h1,h2⟩:=BO h.2;obtain ⟨xs,h3,h4⟩:=h.1;exact ⟨xs++us,⟨xs,us,h3,h4.length,rfl,h1⟩,h4.append h2⟩
theorem Be {κ:Kx}:∀{sh:List (Option Nat)} {vs us:List Value} {cs:List C},shp sh vs us->denVs κ us cs->cz κ vs (CC sh cs)
 |[],[],us,cs,_,_=>by simp [CC,cz]
 |[],_::_,_,_,h,_=>h.elim
 |none::_,[],_,_,h,_=>h.elim
 |some _::_,[],_,_,h,_=>h.elim
 |none::s,v::vs,us,cs,h,hd=>by
  obtain ⟨us',rfl,h1⟩:=h;cases cs with
  |nil=>exact hd.elim
  |cons c cs=>exact ⟨hd.1,Be h1 hd.2⟩
 |some k::s,v::vs,us,cs,h,hd=>by
  obtain ⟨l,us',h1,h2,rfl,h3⟩:=h;have e1:(l++us').take k=l:=List.take_left' h2;have e2:(l++us').drop k=us':=List.drop_left' h2;have d1:=hd.take k;have d2:=hd.drop k;rw [e1] at d1;rw [e2] at d2;simp only [CC];exact ⟨⟨l,h1,d1⟩,Be h3 d2⟩
def Dq (st:St) (x:Operand):Option Bool:=match ev st x with
 | .val (.one (.lit (.slice none 0 0)))=>some true
 | .val (.one (.sh _ n _))=>if Nat.beq n 0 then none else some false
 | .val (.one (.own nm s n sz))=>if Nat.beq n 0||Nat.beq sz 0|| !(AH st nm s) then none else some false
 | .val (.one (.vw nm s _ n sz))=>if Nat.beq n 0||Nat.beq sz 0|| !(AH st nm s) then none else some false
 |_=>none
theorem Ci {e:En} {st:St} {a:Act} {w:World} {σ:Nat->Value} (hW:RW e st.H st.nx σ w) (ht:∀t,aG (kx e st.H st.nx σ w) (a.tmps.getD t undef) (st.tm t)) {x:Operand} {b:Bool} (h:Dq st x=some b):
  ∃ad n c,a.eval x= .slice ad n c/\ad.isNone=b:=by
 have hx:=bc ht x;unfold Dq at h;split at h<;>try (cases h;done)
 ·rename_i he;rw [he] at hx;simp only [aG,bb,den] at hx;obtain rfl:=Option.some.inj h;exact ⟨none,0,0,hx.1,rfl⟩
 ·rename_i sz n cs he;rw [he] at hx;split at h<;>try (cases h;done)
  rename_i hn;obtain rfl:=Option.some.inj h;simp only [aG,bb,den] at hx;obtain ⟨ad,cap,h1,h2,h3,h4,_⟩:=hx;refine ⟨ad,n,cap,h1,?_⟩;cases ad with
  |none=>
   have:=h4 rfl;have:n=0:=by omega
   subst this;exact absurd rfl hn
  |some _=>rfl
 all_goals
  rename_i he;rw [he] at hx;split at h<;>try (cases h;done)
  rename_i hn;obtain rfl:=Option.some.inj h;simp only [Bool.or_eq_true,Bool.not_eq_true',not_or,Bool.not_eq_true,Bool.not_eq_false] at hn;obtain ⟨⟨hn1,hn2⟩,hn3⟩:=hn;obtain ⟨B,hB,hs⟩:=Jt hn3;have hsz:∀z:Nat,Nat.beq z 0=false->z≠0:=fun z hz h0=>by subst h0;cases hz
  obtain ⟨ad,cap,xs,h1,_,_,_,_,_,h7,_⟩:=JP hW hx rfl hB hs (hsz _ hn2);refine ⟨ad,_,cap,h1,?_⟩;obtain ⟨b,_,h8⟩:=h7.resolve_left (hsz _ hn1);rw [h8];rfl
def BP (P:Program) (st:St):Op->Option AV
 | .indexAddr t x ix=>match ev st x,ev st ix,elT P t with
  | .val (.one (.vw nm s off n sz)),.val (.one (.lit (.int _ i))),some (_,sz',_)=>
   if Nat.beq sz sz'&&(!(Nat.beq sz 0)&&(decide (0<=i)&&(decide (i<n)&&AH st nm s))) then some (.val (.one (.ptr nm s ((off+i.toNat)*sz)))) else none
  |_,_,_=>none
 | .slice t x lo hi none=>match AX (ev st x),elT P t with
  |some (nm,s,off,n,sz),some (_,sz',_)=>match bnd st lo 0,bnd st hi n with
   |some (_,l),some (_,h)=>if Nat.beq sz sz'&&(!(Nat.beq sz 0)&&(JG st lo&&(JG st hi&&(decide (l<=h)&&(decide (h<=n)&&AH st nm s))))) then some (.val (.one (.vw nm s (off+l) (h-l) sz))) else none
   |_,_=>none
  |_,_=>none
 | .makeFunc (.func f) first captured=>match first.toList,kP (captured.toList.map (ev st)) with
  |[],some l=>some (.val (.one (.clo f (shs l) (css l))))
  |_,_=>none
 | .binOp .eql t x (.const (.slice none 0 0)) _=>match elT P t,Dq st x with
  |some _,some b=>some (one (.bool b))
  |_,_=>none
 | .binOp .neq t x (.const (.slice none 0 0)) _=>match elT P t,Dq st x with
  |some _,some b=>some (one (.bool (!b)))
  |_,_=>none
 | .call {callee:= .builtin .len,args,argTypes}=>match args.toList,argTypes.toList with
  |[x],[t]=>match ev st x,elT P t with
   | .val (.one (.vw _ _ _ n _)),some _=>some (one (.int .i64 n))
   |_,_=>none
  |_,_=>none
 |_=>none
section
variable {P : Program} {e : En} {k0 : Kx} {N : Nat} {st : St} {a : Act} {w : World} {σ : Nat → Value} {o : Oper} {x : AV}
theorem A3 {t E:TypeId} {ad:Option Addr} {n c:Nat} (hu:P.underlying t=some (.slice E)) (w:World):(Op.equal t (.slice ad n c) (.slice none 0 0)).run P w= .ok ad.isNone w:=run_equal_slice_nil (P:=P) w t E ad n c hu
theorem Av {z:Nat} (h:Nat.beq z 0=false):z≠0:=fun h0=>by subst h0;cases h
theorem CD (hW:RW e st.H st.nx σ w) (ht:∀t,aG (kx e st.H st.nx σ w) (a.tmps.getD t undef) (st.tm t)) (h:BP P st o.op=some x):Yl P o a w (kx e st.H st.nx σ w) x:=by
 generalize hop:o.op=op at h;unfold BP at h;split at h<;>try (cases h;done)
 ·rename_i t y ix;have hy:=bc ht y;have hx:=bc ht ix;split at h<;>try (cases h;done)
  rename_i nm s off n sz k i E sz' by_ h1 h2 h3;split at h<;>try (cases h;done)
  rename_i hc;obtain rfl:=Option.some.inj h;simp only [Bool.and_eq_true,Bool.not_eq_true',decide_eq_true_eq] at hc;obtain ⟨c1,c2,c3,c4,c5⟩:=hc;have c1:=Nat.eq_of_beq_eq_true c1;subst c1;obtain ⟨B,hB,hs⟩:=Jt c5;rw [h1] at hy;rw [h2] at hx;simp only [aG,bb,den] at hx;obtain ⟨ad,cap,xs,k1,k2,k3,k4,k5,k6,k7,_⟩:=JP hW hy rfl hB hs (Av c2);obtain ⟨b,q1,q2⟩:=k7.resolve_left (by omega);subst q2;have hlt:s<st.nx:=hs▸(hW.blk nm B hB).1;refine ⟨.pointer (some ⟨b,off*sz+i.toNat*sz,none⟩),fun w' _=>?_,?_⟩
  ·simp only [execOp,hop,k1,hx.1,Sem.run_bind,j5 h3 k i b (off*sz) n cap c3 c4 w',Result.andThen_ok,Sem.run_pure]
  simp only [aG,bb,den];refine ⟨rfl,hlt,fun B' hB' _=>⟨b,q1,?_⟩⟩;rw [Nat.add_mul]
 ·rename_i t y lo hi;have hy:=bc ht y;split at h<;>try (cases h;done)
  rename_i nm s off n sz E sz' by_ h1 h2;split at h<;>try (cases h;done)
  rename_i p1 l p2 hh hb1 hb2;split at h<;>try (cases h;done)
  rename_i hc;obtain rfl:=Option.some.inj h;simp only [Bool.and_eq_true,Bool.not_eq_true',decide_eq_true_eq] at hc;obtain ⟨c1,c2,c3,c4,c5,c6,c7⟩:=hc;have c1:=Nat.eq_of_beq_eq_true c1;subst c1;obtain ⟨B,hB,hs⟩:=Jt c7;have hp1:=dr c3 hb1;have hp2:=dr c4 hb2;obtain ⟨ad,cap,xs,k1,k2,k3,k4,k5,k6,k7,_,_,_,k11⟩:=JP hW hy h1 hB hs (Av c2);obtain ⟨g1,j,g2,g3,_⟩:=dZ h2;have hlt:s<st.nx:=hs▸(hW.blk nm B hB).1;have e1:∀w',(Instr.sliceBounds true n cap (lo.map a.eval) (hi.map a.eval) none).run P w'= .ok (l,hh,cap) w':=fun w'=>by
   have f2:(0:Int)<=(hh:Int)/\(hh:Int)<=(cap:Int):=⟨by omega,by omega⟩;have f1:(0:Int)<=(l:Int)/\(l:Int)<=(hh:Int):=⟨by omega,by omega⟩;rcases jG ht hb1 hp1 with ⟨rfl,rfl⟩|⟨z1,k1,rfl,q1⟩<;>rcases jG ht hb2 hp2 with ⟨rfl,rfl⟩|⟨z2,k2,rfl,q2⟩
   ·simp [Instr.sliceBounds]
   ·simp only [Instr.sliceBounds,Option.map_some,Option.map_none,q2,Instr.sliceBound,asIntOf,Sem.run_bind,Sem.run_pure,Result.andThen_ok,Sem.run_ite,if_pos f2,Int.toNat_natCast]
   ·simp only [Instr.sliceBounds,Option.map_some,Option.map_none,q1,Instr.sliceBound,asIntOf,Sem.run_bind,Sem.run_pure,Result.andThen_ok,Sem.run_ite,if_pos f1,Int.toNat_natCast]
   simp only [Instr.sliceBounds,Option.map_some,q1,q2,Instr.sliceBound,asIntOf,Sem.run_bind,Sem.run_pure,Result.andThen_ok,Sem.run_ite,if_pos f1,if_pos f2,Int.toNat_natCast]
  refine ⟨.slice (if cap=l then ad else ad.map (·.add (l*sz))) (hh-l) (cap-l),fun w' _=>?_,?_⟩
  ·simp only [execOp,hop,k1,Sem.run_bind,Instr.sliceAt,run_underlying g1,Result.andThen_ok,Instr.slice,e1 w',sizeOf,typeInfo,run_program,g2,g3,Sem.run_pure,Option.map_none]
  simp only [aG,bb,den];refine ⟨_,_,rfl,by omega,by omega,fun hnone=>?_,hlt,fun B' hB' _=>?_⟩
  ·split at hnone
   ·omega
   cases ad with
   |none=>have:=k11 rfl;omega
   |some q=>simp at hnone
  have hBB:st.H nm=some B':=hB';rw [hB] at hBB;cases hBB;refine ⟨k4,by omega,?_⟩;by_cases h0:off+l=0
  ·have hl:l=0:=by omega
   have ho:off=0:=by omega
   subst hl;subst ho;refine .inl ⟨rfl,?_⟩;have e2:(if cap=0 then ad else ad.map (·.add (0*sz)))=ad:=by
    split
    ·rfl
    cases ad with
    |none=>rfl
    |some q=>simp [Addr.add]
   rw [e2,Nat.sub_zero];exact k6 rfl
  refine .inr ⟨h0,?_⟩;by_cases hz:hh-l=0
  ·exact .inl hz
  obtain ⟨b,q1,q2⟩:=k7.resolve_left (by omega);refine .inr ⟨b,q1,?_⟩;rw [if_neg (by omega),q2];simp [add_lit,Nat.add_mul]
 ·rename_i f first captured
  split at h<;>try (cases h;done)
  rename_i l h1 h2;obtain rfl:=Option.some.inj h;have hr:=rA (κ:=kx e st.H st.nx σ w) (vs:=captured.toList.map a.eval) (by
   refine ⟨by simp,fun i h h'=>?_⟩;simp only [List.getElem_map];exact bc ht _) h2
  obtain ⟨us,g1,g2⟩:=BO hr;have hf:first= #[]:=Array.toList_inj.1 h1
  refine ⟨.func (.func f) #[] (captured.toList.map a.eval).toArray,fun w' _=>?_,?_⟩
  ·have e1:Array.map a.eval captured=(List.map a.eval captured.toList).toArray:=by rw [←Array.toList_map,Array.toArray_toList]
   simp [execOp,hop,Instr.makeFunc,hf];exact e1
  simp only [aG,bb,den];exact ⟨_,us,rfl,g1,JJ.2 g2⟩
 ·rename_i t y yt;split at h<;>try (cases h;done)
  rename_i el b h1 h2;obtain rfl:=Option.some.inj h;obtain ⟨ad,n,c,k1,rfl⟩:=Ci hW ht h2;obtain ⟨E,sz,by_⟩:=el;refine ⟨.bool ad.isNone,fun w' _=>?_,by simp only [aG,bb,den];exact ⟨trivial,rfl⟩⟩;have he:=A3 (P:=P) (ad:=ad) (n:=n) (c:=c) (dZ h1).1 w';have e1:a.eval (.const (.slice none 0 0))= .slice none 0 0:=rfl;simp only [execOp,hop];rw [k1,e1,eqGuard_at_slice];simp [binOp,he]
 ·rename_i t y yt;split at h<;>try (cases h;done)
  rename_i el b h1 h2;obtain rfl:=Option.some.inj h;obtain ⟨ad,n,c,k1,rfl⟩:=Ci hW ht h2;obtain ⟨E,sz,by_⟩:=el;refine ⟨.bool (!ad.isNone),fun w' _=>?_,by simp only [aG,bb,den];exact ⟨trivial,rfl⟩⟩;have he:=A3 (P:=P) (ad:=ad) (n:=n) (c:=c) (dZ h1).1 w';have e1:a.eval (.const (.slice none 0 0))= .slice none 0 0:=rfl;simp only [execOp,hop];rw [k1,e1,eqGuard_at_slice];simp [binOp,he]
 rename_i args argTypes;split at h<;>try (cases h;done)
 rename_i y t hargs htys;have ha:args= #[y]:=Array.toList_inj.1 hargs;have hty:argTypes= #[t]:=Array.toList_inj.1 htys;subst ha hty;have hy:=bc ht y;split at h<;>try (cases h;done)
 rename_i nm s off n sz el h1 h2;obtain rfl:=Option.some.inj h;rw [h1] at hy;simp only [aG,bb,den] at hy;obtain ⟨ad,cap,k1,_⟩:=hy;obtain ⟨E,sz',by_⟩:=el;refine ⟨.int .i64 n,fun w' _=>?_,by simp only [aG,bb,den];exact ⟨trivial,rfl⟩⟩;simp [execOp,hop,resolve,invoke,builtin,k1,Builtin.len_,run_underlying (dZ h2).1,goInt]
def BQ (P:Program) (eqT:TypeId->List Value->List Value->Bool) (st:St) (op:Op):Option AV:=match BP P st op with
 |some x=>some x
 |none=>bif ckB P eqT st op then (d8 P st op).map (·.2) else none
theorem CE {eqT:TypeId->List Value->List Value->Bool} (heq:∀t us vs,eqT t us vs=true->zg P t us vs) (hW:RW e st.H st.nx σ w) (ht:∀t,aG (kx e st.H st.nx σ w) (a.tmps.getD t undef) (st.tm t)) (h:BQ P eqT st o.op=some x):Yl P o a w (kx e st.H st.nx σ w) x:=by
 unfold BQ at h;split at h
 ·rename_i y hy;obtain rfl:=Option.some.inj h;exact CD hW ht hy
 cases hc:ckB P eqT st o.op with
 |false=>rw [hc] at h;cases h
 |true=>
  rw [hc] at h;simp only [cond_true,Option.map_eq_some_iff] at h;obtain ⟨⟨p,y⟩,h1,rfl⟩:=h;exact jK hW ht h1 (DZ heq hc h1)
end
end Go.Proofs.YtcgpghifhehlhaaGreatDoor
