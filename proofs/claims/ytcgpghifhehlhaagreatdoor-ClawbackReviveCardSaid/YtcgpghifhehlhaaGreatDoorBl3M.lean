/- The builder's debts; walked by the abstract machine. -/
import Derived.Test.YtcgpghifhehlhaaGreatDoorLawM
set_option linter.unusedVariables false
set_option maxHeartbeats 4000000
set_option maxRecDepth 100000
set_option linter.unusedSimpArgs false
set_option linter.defProp false
set_option linter.unusedSectionVars false
namespace Go.Proofs.YtcgpghifhehlhaaGreatDoor
open Go Go.RowKit Go.Proofs.Tryz
theorem pw {α:Type} {f:α->List C} {sz:Nat} (hf:∀a,(f a).length=sz) (l:List α) (k:Nat) (x:α) (h:k<l.length):spl (ar f l) (k*sz) (f x)=ar f (l.set k x):=by
 have h1:ar f l=ar f (l.take k)++(f l[k]++ar f (l.drop (k+1))):=by
  conv=>lhs;rw [←List.take_append_drop k l,aV,List.drop_eq_getElem_cons h,aY]
 have h2:ar f (l.set k x)=ar f (l.take k)++(f x++ar f (l.drop (k+1))):=by
  have hk:k<(l.set k x).length:=by simpa using h
  conv=>lhs;rw [←List.take_append_drop k (l.set k x),aV,List.drop_eq_getElem_cons hk,aY]
  rw [List.getElem_set_self,List.drop_set];have:(l.set k x).take k=l.take k:=by rw [List.take_set];exact List.set_eq_of_length_le (by rw [List.length_take];omega)
  rw [this];simp
 have h3:(ar f (l.take k)).length=k*sz:=by rw [aS hf,List.length_take,Nat.min_eq_left (Nat.le_of_lt h)]
 rw [h1,h2,←h3];exact nJ _ _ _ _ (by rw [hf,hf])
structure OS where
 k:Nat
 h:Int
 l:List Leg
def owS (debts:List GDebt) (p:N3) (i c:Nat) (y:GClaim) (s:OS):OS:=
 if tkD i c debts=true then s else if (4:Int)<=(s.l.length:Int) then s else
 if p.a/2^(s.k%16)%2=1 then (if (s.l.length:Int)=0 then ⟨s.k+1,y.holder,s.l++[((i:Int),(c:Int))]⟩ else if y.holder=s.h then ⟨s.k+1,y.holder,s.l++[((i:Int),(c:Int))]⟩ else ⟨s.k+1,s.h,s.l⟩) else ⟨s.k+1,s.h,s.l⟩
def owC (debts:List GDebt) (p:N3) (i:Nat):List GClaim->Nat->OS->OS
 |[],_,s=>s
 |y::l,c,s=>owC debts p i l (c+1) (owS debts p i c y s)
def owE (debts:List GDebt) (p:N3):List GEst->Nat->OS->OS
 |[],_,s=>s
 |e::l,i,s=>owE debts p l (i+1) (owC debts p i e.claims 0 s)
theorem xV (debts:List GDebt) (p:N3) (i c:Nat) (y:GClaim) (s:OS):(owS debts p i c y s).k<=s.k+1/\(s.l.length<=4->(owS debts p i c y s).l.length<=4):=by
 unfold owS;split
 ·exact ⟨by omega,id⟩
 split
 ·exact ⟨by omega,id⟩
 repeat' split
 all_goals first|(simp;done)|(simp;omega)
def swp (l:List Leg) (i j:Nat):List Leg:=(l.set i (l.getD j (0,0))).set j (l.getD i (0,0))
def rvL (l:List Leg):Nat->List Leg
 |0=>l
 |m+1=>swp (rvL l m) m (l.length-1-m)
theorem jC (l:List Leg):∀m,(rvL l m).length=l.length
 |0=>rfl
 |m+1=>by simp [rvL,swp,jC l m]
noncomputable def owN (g:GGrp) (p:N3):GDebt:=⟨enc (cY p.c),if p.b%2=1 then rvL (owE g.debts p g.ests 0 ⟨0,0,[]⟩).l ((owE g.debts p g.ests 0 ⟨0,0,[]⟩).l.length/2) else (owE g.debts p g.ests 0 ⟨0,0,[]⟩).l⟩
def F6:=And.intro zS (And.intro yB (And.intro pn (And.intro nK (And.intro u7 (And.intro jS (And.intro pk (And.intro nL (And.intro tv (And.intro po (And.intro tw (And.intro jT (And.intro nM (And.intro pl (And.intro jU (And.intro pm (And.intro nN (And.intro tA (And.intro vd (And.intro xe (And.intro qO (And.intro xf (And.intro Jy (And.intro yE (And.intro yF (And.intro zZ (And.intro zC (And.intro u9 (And.intro yG (And.intro zA (And.intro tC (And.intro xg (xh))))))))))))))))))))))))))))))))
theorem F7:type_of%F6:=F6
theorem Mn (g:GGrp) (p:N3) (hp:p.a<65536/\p.b<65536/\p.c<65536) (hge:g.ests.length<=1000) (hg:∀e∈g.ests,e.claims.length<=1000) (hn:g.debts.length<=1000000000000) (he:∀d∈g.debts,d.legs.length<=1000000000000):ch prog 30 [.agg (au g),.agg (cN3 p)] (.val (.one (.sh 4 (g.debts++[owN g p]).length (ar cn (g.debts++[owN g p]))))):=by
 refine bF func30 rfl (by decide) (N:=121) rfl (by simp) (R:=[.tmp 4]) rfl fun en k0=>?_
 refine awN ?_;simp only [F7,seval,au,cN3];refine awN ?_;simp only [F7,seval];refine ⟨_,(fL p.c hp.2.2),rfl,?_⟩;try simp only [aq,F7,seval,cS]
 refine awN ?_;simp only [F7,seval];refine awN ?_;simp only [F7,seval];refine awN ?_;simp only [F7,seval];refine dE 5 3 78 _ 44 2 (by decide) (by rfl) (by decide) (by simp) (by rfl) ?_;refine aQ [2,3,4,5,6,7,19,20,21] [2,3,5,78] ?_;try simp only [aq,F7,seval]
 repeat' first|apply awS|apply awB
 refine aB (fun n st=>∃i0 s s1 nx,i0<=g.ests.length/\n=g.ests.length-i0/\owE g.debts p (g.ests.drop i0) i0 s=owE g.debts p g.ests 0 ⟨0,0,[]⟩/\s.k<=i0*1000/\s.l.length<=4/\st=⟨mkT [(2,.val (.one (.ptr 2 0 0))),(3,.val (.one (.ptr 3 1 0))),(4,.val (.one (.lit (.slice none 0 0)))),(5,.val (.one (.ptr 5 2 0))),(6,one (.int .i64 s.k)),(7,one (.int .i64 s.h)),(19,.val (.one (.sh 5 g.ests.length (ar bh g.ests)))),(20,one (.int .i64 g.ests.length)),(21,one (.int .i64 i0))],mkH [(2,⟨0,28,2,1,au g⟩),(3,⟨1,93,3,1,cN3 p⟩),(5,⟨2,42,4,1,[.lit (.bool (enc (cY p.c)).neg),.lit (.string (enc (cY p.c)).num),.lit (.string (enc (cY p.c)).den),.own 78 s1 (s.l).length 2]⟩),(78,⟨s1,44,2,(s.l).length,ar f9 (s.l)⟩)],nx,0⟩) (g.ests.length) ⟨0,⟨0,0,[]⟩,_,_,by omega,by omega,by rfl,(by first|omega|assumption|rfl|simp|(simp;omega)),(by first|omega|assumption|rfl|simp|(simp;omega)),rfl⟩ ?_;rintro n0 st ⟨i0,s,s1,nx0,hk0,rfl,hL0,hV0_1,hV0_2,rfl⟩;by_cases hlt0:i0<g.ests.length
 ·have hI0:(i0:Int)<(g.ests.length:Int):=by omega
  have hat0:=aO de g.ests i0 hlt0;try rw [Nat.mul_one] at hat0
  rw [List.drop_eq_getElem_cons hlt0] at hL0;have hec:=hg _ (List.getElem_mem hlt0);generalize g.ests[i0]=e at *
  simp only [owE] at hL0;refine awN ?_;simp only [F7,seval,au,cN3,hI0];refine awT ?_;refine awK ?_;simp only [F7,seval];refine awN ?_;simp only [F7,seval];refine awN ?_;simp only [F7,seval,hI0,hat0,bh];repeat refine ob ?_
  refine aQ [2,3,4,5,6,7,8,19,20,21,29,30,31] [2,3,5,78] ?_;try simp only [aq,F7,seval,ay,List.length_append]
  repeat' first|apply awS|apply awB
  refine aB (fun n st=>∃c0 t s2 nx,c0<=e.claims.length/\n=e.claims.length-c0/\owC g.debts p i0 (e.claims.drop c0) c0 t=owC g.debts p i0 e.claims 0 s/\t.k<=i0*1000+c0/\t.l.length<=4/\st=⟨mkT [(2,.val (.one (.ptr 2 0 0))),(3,.val (.one (.ptr 3 1 0))),(4,.val (.one (.lit (.slice none 0 0)))),(5,.val (.one (.ptr 5 2 0))),(6,one (.int .i64 t.k)),(7,one (.int .i64 t.h)),(8,one (.int .i64 i0)),(19,.val (.one (.sh 5 g.ests.length (ar bh g.ests)))),(20,one (.int .i64 g.ests.length)),(21,one (.int .i64 i0)),(29,.val (.one (.sh 5 e.claims.length (ar aA e.claims)))),(30,one (.int .i64 e.claims.length)),(31,one (.int .i64 c0))],mkH [(2,⟨0,28,2,1,au g⟩),(3,⟨1,93,3,1,cN3 p⟩),(5,⟨2,42,4,1,[.lit (.bool (enc (cY p.c)).neg),.lit (.string (enc (cY p.c)).num),.lit (.string (enc (cY p.c)).den),.own 78 s2 (t.l).length 2]⟩),(78,⟨s2,44,2,(t.l).length,ar f9 (t.l)⟩)],nx,0⟩) (e.claims.length) ⟨0,s,_,_,by omega,by omega,by rfl,(by first|omega|assumption|rfl|simp|(simp;omega)),(by first|omega|assumption|rfl|simp|(simp;omega)),rfl⟩ ?_;rintro n1 st ⟨c0,t,s2,nx1,hk1,rfl,hL1,hV1_1,hV1_2,rfl⟩;by_cases hlt1:c0<e.claims.length
  ·have hI1:(c0:Int)<(e.claims.length:Int):=by omega
   have hat1:=aO bX e.claims c0 hlt1;try rw [Nat.mul_one] at hat1
   rw [List.drop_eq_getElem_cons hlt1] at hL1;have aL:=xV g.debts p i0 c0 e.claims[c0] t;generalize e.claims[c0]=y at *
   simp only [owC] at hL1;refine awN ?_;simp only [F7,seval,au,cN3,hI1];refine awT ?_;refine awK ?_;simp only [F7,seval];refine awN ?_;simp only [F7,seval,hI1,hat1,aA];repeat refine ob ?_
   by_cases ht:tkD (i0:Int) (c0:Int) g.debts=true
   ·refine awR [] [0,0,0,0,0,82,82,82,82,0] ?_;simp only [F7,seval,ab ak,ab ai];refine ⟨_,(nQ g i0 c0 hn he),rfl,?_⟩;try simp only [aq,F7,seval,ht]
    refine awT ?_;refine awQ ?_;simp only [F7,seval];refine awN ?_;simp only [F7,seval];repeat refine ob ?_
    refine ⟨_,aH [2,3,4,5,6,7,8,19,20,21,29,30,31] [2,3,5,78],e.claims.length-(c0+1),by omega,c0+1,(owS g.debts p i0 c0 y t),?a12_s2,?a12_nx,by omega,rfl,?i12_0,?i12_1,?i12_2,?st12⟩;case st12=>(simp only [F7,seval,owS,ht];first|rfl|(simp [owS,ay,f9,List.length_append,List.length_cons,List.length_nil,hI0,hat0,bh,hI1,hat1,ht,Nat.add_mul];done))
    case i12_0=>(first|exact hL1|(rw [←hL1];simp only [reduceIte,hI0,hat0,bh,hI1,hat1,ht];done)|(rw [←hL1];simp [hI0,hat0,bh,hI1,hat1,ht];done)|(simp [hI0,hat0,bh,hI1,hat1,ht] at hL1;simpa using hL1)|(rw [←hL1];simp [*];done))
    all_goals (first|omega|assumption|(simp;omega)|(simp_all;done))
   by_cases h4:(4:Int)<=(t.l.length:Int)
   ·refine awR [] [0,0,0,0,0,82,82,82,82,0] ?_;simp only [F7,seval,ab ak,ab ai];refine ⟨_,(nQ g i0 c0 hn he),rfl,?_⟩;try simp only [aq,F7,seval,ht,h4]
    refine awT ?_;refine awQ ?_;simp only [F7,seval];refine awN ?_;simp only [F7,seval];repeat refine ob ?_
    refine ⟨_,aH [2,3,4,5,6,7,8,19,20,21,29,30,31] [2,3,5,78],e.claims.length-(c0+1),by omega,c0+1,(owS g.debts p i0 c0 y t),?a15_s2,?a15_nx,by omega,rfl,?i15_0,?i15_1,?i15_2,?st15⟩;case st15=>(simp only [F7,seval,owS,ht,h4];first|rfl|(simp [owS,ay,f9,List.length_append,List.length_cons,List.length_nil,hI0,hat0,bh,hI1,hat1,ht,h4,Nat.add_mul];done))
    case i15_0=>(first|exact hL1|(rw [←hL1];simp only [reduceIte,hI0,hat0,bh,hI1,hat1,ht,h4];done)|(rw [←hL1];simp [hI0,hat0,bh,hI1,hat1,ht,h4];done)|(simp [hI0,hat0,bh,hI1,hat1,ht,h4] at hL1;simpa using hL1)|(rw [←hL1];simp [*];done))
    all_goals (first|omega|assumption|(simp;omega)|(simp_all;done))
   refine awR [] [0,0,0,0,0,82,82,82,82,0] ?_;simp only [F7,seval,ab ak,ab ai];refine ⟨_,(nQ g i0 c0 hn he),rfl,?_⟩;try simp only [aq,F7,seval,ht,h4]
   refine awF ?_;refine awK ?_;simp only [F7,seval];have w3:((t.k:Nat):Int).tmod 16=((t.k%16:Nat):Int):=by norm_cast
   have w4:IntKind.u64.wrap ((t.k%16:Nat):Int)=((t.k%16:Nat):Int):=qS (t.k%16) (by omega);have w5:=vp p.a (t.k%16) hp.1 (by omega);refine awN ?_;simp only [F7,seval,w3,w4,w5];repeat refine ob ?_
   refine awN ?_;simp only [F7,seval];repeat refine ob ?_
   by_cases hb:((p.a/2^(t.k%16)%2:Nat):Int)=1
   ·have yhb:p.a/2^(t.k%16)%2=1:=by omega
    by_cases hz:(t.l.length:Int)=0
    ·refine awR [] [0,0,119,119,119,119,119,128,128,128,128,119,0] ?_;simp only [F7,seval,yhb,hz];refine awT ?_;refine awN ?_;simp only [F7,seval];refine awN ?_;simp only [F7,seval];repeat refine ob ?_
     refine awN ?_;simp only [F7,seval];repeat refine ob ?_
     refine ⟨_,aH [2,3,4,5,6,7,8,19,20,21,29,30,31] [2,3,5,78],e.claims.length-(c0+1),by omega,c0+1,(owS g.debts p i0 c0 y t),?a23_s2,?a23_nx,by omega,rfl,?i23_0,?i23_1,?i23_2,?st23⟩;case st23=>(simp only [F7,seval,owS,ay,f9,List.length_append,ht,yhb,hz];first|rfl|(simp [owS,ay,f9,List.length_append,List.length_cons,List.length_nil,hI0,hat0,bh,hI1,hat1,ht,h4,hb,yhb,hz,Nat.add_mul];done))
     case i23_0=>(first|exact hL1|(rw [←hL1];simp only [reduceIte,hI0,hat0,bh,hI1,hat1,ht,h4,hb,yhb,hz];done)|(rw [←hL1];simp [hI0,hat0,bh,hI1,hat1,ht,h4,hb,yhb,hz];done)|(simp [hI0,hat0,bh,hI1,hat1,ht,h4,hb,yhb,hz] at hL1;simpa using hL1)|(rw [←hL1];simp [*];done))
     all_goals (first|omega|assumption|(simp;omega)|(simp_all;done))
    by_cases hh:y.holder=t.h
    ·refine awR [] [0,0,119,119,119,119,119,128,128,128,128,119,0] ?_;simp only [F7,seval,yhb,hz,hh];refine awT ?_;refine awN ?_;simp only [F7,seval];refine awN ?_;simp only [F7,seval];repeat refine ob ?_
     refine awN ?_;simp only [F7,seval];repeat refine ob ?_
     refine ⟨_,aH [2,3,4,5,6,7,8,19,20,21,29,30,31] [2,3,5,78],e.claims.length-(c0+1),by omega,c0+1,(owS g.debts p i0 c0 y t),?a28_s2,?a28_nx,by omega,rfl,?i28_0,?i28_1,?i28_2,?st28⟩;case st28=>(simp only [F7,seval,owS,ay,f9,List.length_append,ht,h4,yhb,hz,hh];first|rfl|(simp [owS,ay,f9,List.length_append,List.length_cons,List.length_nil,hI0,hat0,bh,hI1,hat1,ht,h4,hb,yhb,hz,hh,Nat.add_mul];done))
     case i28_0=>(first|exact hL1|(rw [←hL1];simp only [reduceIte,hI0,hat0,bh,hI1,hat1,ht,h4,hb,yhb,hz,hh];done)|(rw [←hL1];simp [hI0,hat0,bh,hI1,hat1,ht,h4,hb,yhb,hz,hh];done)|(simp [hI0,hat0,bh,hI1,hat1,ht,h4,hb,yhb,hz,hh] at hL1;simpa using hL1)|(rw [←hL1];simp [*];done))
     all_goals (first|omega|assumption|(simp;omega)|(simp_all;done))
    refine awR [] [0,0,119,119,119,119,119,128,128,128,128,119,0] ?_;simp only [F7,seval,yhb,hz,hh];refine awF ?_;refine awK ?_;simp only [F7,seval];refine awN ?_;simp only [F7,seval];repeat refine ob ?_
    refine ⟨_,aH [2,3,4,5,6,7,8,19,20,21,29,30,31] [2,3,5,78],e.claims.length-(c0+1),by omega,c0+1,(owS g.debts p i0 c0 y t),?a31_s2,?a31_nx,by omega,rfl,?i31_0,?i31_1,?i31_2,?st31⟩;case st31=>(simp only [F7,seval,owS,ht,h4,yhb,hz,hh];first|rfl|(simp [owS,ay,f9,List.length_append,List.length_cons,List.length_nil,hI0,hat0,bh,hI1,hat1,ht,h4,hb,yhb,hz,hh,Nat.add_mul];done))
    case i31_0=>(first|exact hL1|(rw [←hL1];simp only [reduceIte,hI0,hat0,bh,hI1,hat1,ht,h4,hb,yhb,hz,hh];done)|(rw [←hL1];simp [hI0,hat0,bh,hI1,hat1,ht,h4,hb,yhb,hz,hh];done)|(simp [hI0,hat0,bh,hI1,hat1,ht,h4,hb,yhb,hz,hh] at hL1;simpa using hL1)|(rw [←hL1];simp [*];done))
    all_goals (first|omega|assumption|(simp;omega)|(simp_all;done))
   have yhb:¬p.a/2^(t.k%16)%2=1:=by omega
   refine awR [] [0,0,119,119,119,119,119,128,128,128,128,119,0] ?_;simp only [F7,seval,hb];refine awF ?_;refine awK ?_;simp only [F7,seval];refine awN ?_;simp only [F7,seval];repeat refine ob ?_
   refine ⟨_,aH [2,3,4,5,6,7,8,19,20,21,29,30,31] [2,3,5,78],e.claims.length-(c0+1),by omega,c0+1,(owS g.debts p i0 c0 y t),?a34_s2,?a34_nx,by omega,rfl,?i34_0,?i34_1,?i34_2,?st34⟩;case st34=>(simp only [F7,seval,owS,ht,h4,yhb];first|rfl|(simp [owS,ay,f9,List.length_append,List.length_cons,List.length_nil,hI0,hat0,bh,hI1,hat1,ht,h4,hb,yhb,Nat.add_mul];done))
   case i34_0=>(first|exact hL1|(rw [←hL1];simp only [reduceIte,hI0,hat0,bh,hI1,hat1,ht,h4,hb,yhb];done)|(rw [←hL1];simp [hI0,hat0,bh,hI1,hat1,ht,h4,hb,yhb];done)|(simp [hI0,hat0,bh,hI1,hat1,ht,h4,hb,yhb] at hL1;simpa using hL1)|(rw [←hL1];simp [*];done))
   all_goals (first|omega|assumption|(simp;omega)|(simp_all;done))
  obtain rfl:c0=e.claims.length:=by omega
  have hI1:¬(e.claims.length:Int)<(e.claims.length:Int):=by omega
  rw [List.drop_length] at hL1;simp only [owC] at hL1;refine awN ?_;simp only [F7,seval,au,cN3,hI1];refine awF ?_;refine awQ ?_;simp only [F7,seval];refine awN ?_;simp only [F7,seval];repeat refine ob ?_
  refine ⟨_,aH [2,3,4,5,6,7,19,20,21] [2,3,5,78],g.ests.length-(i0+1),by omega,i0+1,?a37_s,?a37_s1,?a37_nx,by omega,rfl,?i37_0,?i37_1,?i37_2,?st37⟩;case st37=>(simp only [F7,seval];first|rfl|(simp [hI0,hat0,bh,hI1,Nat.add_mul];done))
  case i37_0=>(rw [←hL0,←hL1])
  all_goals (first|omega|assumption|(simp;omega)|(simp_all;done))
 obtain rfl:i0=g.ests.length:=by omega
 have hI0:¬(g.ests.length:Int)<(g.ests.length:Int):=by omega
 rw [List.drop_length] at hL0;simp only [owE] at hL0;refine awN ?_;simp only [F7,seval,au,cN3,hI0];refine awF ?_;refine awQ ?_;simp only [F7,seval];by_cases hr:((p.b%2:Nat):Int)=1
 ·have yhr:p.b%2=1:=by omega
  have w6:((p.b:Nat):Int).tmod 2=((p.b%2:Nat):Int):=by norm_cast
  refine awN ?_;simp only [F7,seval,yhr,w6];refine awT ?_;refine awD (scT 0 6 .nil) [0,0,0,0,0,0] ?_;simp only [F7,seval];repeat refine ob ?_
  generalize hLg:s.l=L at *
  have e0:(L.length:Int)-1=(L.length:Int)-1-((0:Nat):Int):=by omega
  rw [e0];refine aQ [2,3,4,5,12,13] [2,3,5,78] ?_;try simp only [aq,F7,seval]
  repeat' first|apply awS|apply awB
  refine aB (fun n st=>∃m s1 nx,m<=L.length/2/\n=L.length-m/\st=⟨mkT [(2,.val (.one (.ptr 2 0 0))),(3,.val (.one (.ptr 3 1 0))),(4,.val (.one (.lit (.slice none 0 0)))),(5,.val (.one (.ptr 5 2 0))),(12,one (.int .i64 m)),(13,one (.int .i64 ((L.length:Int)-1-m)))],mkH [(2,⟨0,28,2,1,au g⟩),(3,⟨1,93,3,1,cN3 p⟩),(5,⟨2,42,4,1,[.lit (.bool (enc (cY p.c)).neg),.lit (.string (enc (cY p.c)).num),.lit (.string (enc (cY p.c)).den),.own 78 s1 (rvL L m).length 2]⟩),(78,⟨s1,44,2,(rvL L m).length,ar f9 (rvL L m)⟩)],nx,0⟩) (L.length) ⟨0,_,_,by omega,by omega,rfl⟩ ?_;rintro n2 st ⟨m,s1,nx2,hm,rfl,rfl⟩;by_cases hlt:(m:Int)<(L.length:Int)-1-m
  ·refine awN ?_;simp only [F7,seval,au,cN3,hlt];refine awT ?_;refine awK ?_;simp only [F7,seval];obtain ⟨j,hj⟩:∃j:Nat,(L.length:Int)-1-m=j:=⟨L.length-1-m,by omega⟩;have hjn:j=L.length-1-m:=by omega
   simp only [hj];have hm1:m<(rvL L m).length:=by rw [jC];omega
   have hj1:j<(rvL L m).length:=by rw [jC];omega
   have hln:=jC L m;have a1:=aO cr (rvL L m) m hm1;have a2:=aO cr (rvL L m) j hj1;have b1:=pw cr (rvL L m) m (rvL L m)[j] hm1;have b2:=pw cr ((rvL L m).set m (rvL L m)[j]) j (rvL L m)[m] (by simpa using hj1);simp only [f9] at a1 a2 b1 b2;have f1:=aS cr (rvL L m);have f2:=aS cr ((rvL L m).set m (rvL L m)[j]);rw [List.length_set] at f2;refine awD (scT 0 4 (scT 5 12 (.two 4 17 (scq [34,37,38] .nil) (scq [9,37,38] .nil)))) [0,0,0,0,0,0,0,0,0,0,0,0,0,0,0,0,0,0,0,0] ?_;simp only [F7,seval,a1,a2,b1,b2,f1,f2];repeat refine ob ?_
   refine ⟨?_,?_⟩
   ·repeat refine ob ?_
    refine awN ?_;simp only [F7,seval];repeat refine ob ?_
    have hr1:rvL L (m+1)=((rvL L m).set m (rvL L m)[j]).set j (rvL L m)[m]:=by simp [rvL,swp,←hjn,hm1,hj1]
    have e1:(j:Int)-1=(L.length:Int)-1-((m+1:Nat):Int):=by omega
    refine ⟨_,aH [2,3,4,5,12,13] [2,3,5,78],L.length-(m+1),by omega,m+1,s1,nx2,by omega,rfl,?_⟩;simp only [F7,seval,hr1,List.length_set,e1,Int.natCast_add];try rfl
   repeat refine ob ?_
   refine awN ?_;simp only [F7,seval];repeat refine ob ?_
   have hr1:rvL L (m+1)=((rvL L m).set m (rvL L m)[j]).set j (rvL L m)[m]:=by simp [rvL,swp,←hjn,hm1,hj1]
   have e1:(j:Int)-1=(L.length:Int)-1-((m+1:Nat):Int):=by omega
   refine ⟨_,aH [2,3,4,5,12,13] [2,3,5,78],L.length-(m+1),by omega,m+1,s1,nx2,by omega,rfl,?_⟩;simp only [F7,seval,hr1,List.length_set,e1,Int.natCast_add];try rfl
  refine awN ?_;simp only [F7,seval,au,cN3,hlt];refine awF ?_;refine awQ ?_;simp only [F7,seval];refine ao 78 5 3 (by rfl) (by rfl) (by rfl) (by decide) (by show (2:Nat)≠0;decide) (by show (4:Nat)≠0;decide) rfl ?_;simp only [F7,seval];refine awD (scq [1,3] (.two 2 3 (scq [7,8,10,13] .nil) (.two 2 4 (scq [8,10,13] .nil) (scq [4,10,13] .nil)))) [0,0,0,0,0,0,0] ?_;simp only [F7,seval];refine ⟨?_,?_⟩
  ·repeat refine ob ?_
   have hm2:m=L.length/2:=by omega
   subst hm2;refine awX ?_;simp only [F7,seval];simp [owN,←hL0,yhr,hLg,cn,aV,aY,ej,jC,pg,av,az,ab ai,ab mN]
  refine ⟨?_,?_⟩
  ·repeat refine ob ?_
   have hm2:m=L.length/2:=by omega
   subst hm2;refine awX ?_;simp only [F7,seval];simp [owN,←hL0,yhr,hLg,cn,aV,aY,ej,jC,pg,av,az,ab ai,ab mN]
  repeat refine ob ?_
  have hm2:m=L.length/2:=by omega
  subst hm2;refine awX ?_;simp only [F7,seval];simp [owN,←hL0,yhr,hLg,cn,aV,aY,ej,jC,pg,av,az,ab ai,ab mN]
 have yhr:¬p.b%2=1:=by omega
 have w6:((p.b:Nat):Int).tmod 2=((p.b%2:Nat):Int):=by norm_cast
 refine awN ?_;simp only [F7,seval,hr,w6];refine awF ?_;refine awK ?_;simp only [F7,seval];refine ao 78 5 3 (by rfl) (by rfl) (by rfl) (by decide) (by show (2:Nat)≠0;decide) (by show (4:Nat)≠0;decide) rfl ?_;simp only [F7,seval];refine awD (scq [1,3] (.two 2 3 (scq [7,8,10,13] .nil) (.two 2 4 (scq [8,10,13] .nil) (scq [4,10,13] .nil)))) [0,0,0,0,0,0,0] ?_;simp only [F7,seval];refine ⟨?_,?_⟩
 ·repeat refine ob ?_
  refine awX ?_;simp only [F7,seval];simp [owN,←hL0,yhr,cn,aV,aY,ej,pg,av,az,ab ai,ab mN]
 refine ⟨?_,?_⟩
 ·repeat refine ob ?_
  refine awX ?_;simp only [F7,seval];simp [owN,←hL0,yhr,cn,aV,aY,ej,pg,av,az,ab ai,ab mN]
 repeat refine ob ?_
 refine awX ?_;simp only [F7,seval];simp [owN,←hL0,yhr,cn,aV,aY,ej,pg,av,az,ab ai,ab mN]
section
variable {P : Program} {e : En} {k0 : Kx} {N : Nat} {st : St} {a : Act} {w : World} {Q : Exit → St → Prop} {c : Code}
theorem vt (nm:Nat) {B:Blk} (cs':List C) (hB:st.H nm=some B) (hsz:B.sz≠0) (hl:cs'.length=B.cs.length) (h:∀(κ:Kx) (vs:List Value),denVs κ vs B.cs->denVs κ vs cs'):
  Wk e k0 N st ⟨st.tm,up st.H nm (some {B with cs:=cs'}),st.nx,st.nb⟩:=by
 intro a w hr;obtain ⟨σ,h1,h2,h3⟩:=hr.ex;obtain ⟨g1,g2,xs,g3,g4⟩:=h1.rowOf hB (.inl hsz);obtain ⟨m1,m2⟩:=h1.upd (w':=w) hB ⟨rfl,rfl,rfl,Nat.le_refl _,fun _ _ _=>rfl⟩ (cs:=cs') hsz (by rw [hl];exact g2) g3 (h _ _ g4);exact ⟨⟨_,m1,fun t'=>dz m2 (h2 t'),h3.trans m2⟩,hr.df,hr.sz⟩
end
theorem jY {κ:Kx} {v:Value} (sz:Nat) (h:den κ v (.lit (.slice none 0 0))):den κ v (.sh sz 0 []):=by
 simp only [den] at h ⊢;exact ⟨none,0,h.1,Nat.le_refl _,by unfold maxLen;omega,fun _=>rfl,by simp,.inl trivial⟩
theorem aW {κ:Kx} {vs:List Value} {c:C} {cs:List C} (h:denVs κ vs (c::cs)):∃v vs',vs=v::vs'/\den κ v c/\denVs κ vs' cs:=by
 cases vs with
 |nil=>exact h.elim
 |cons v vs=>exact ⟨v,vs,rfl,h.1,h.2⟩
theorem Ks:∀(ps:List (GEst×Nat)) (i:Nat),(∀p∈ps,p.1.agrs=[])->∀(κ:Kx) (vs:List Value),denVs κ vs (cg fSh ps i)->denVs κ vs (ar bh (ps.map (·.1)))
 |[],_,_,κ,vs,h=>h
 |p::ps,i,hp,κ,vs,h=>by
  have ha:=hp p (by simp);simp only [cg,List.cons_append,List.nil_append] at h;obtain ⟨v1,vs1,rfl,d1,h⟩:=aW h;obtain ⟨v2,vs2,rfl,d2,h⟩:=aW h;obtain ⟨v3,vs3,rfl,d3,h⟩:=aW h;obtain ⟨v4,vs4,rfl,d4,h⟩:=aW h;obtain ⟨v5,vs5,rfl,d5,h⟩:=aW h;have ih:=Ks ps (i+1) (fun q hq=>hp q (by simp [hq])) κ vs5 h;rw [List.map_cons,aY];simp only [bh,ha];exact ⟨d1,d2,d3,d4,jY 1 d5,ih⟩
theorem vu {l m:List (GEst×Nat)} (i:Nat) (h:l.map (·.1)=m.map (·.1)):cg e6 l i=cg e6 m i:=by
 induction l generalizing m i with
 |nil=>
  cases m with
  |nil=>rfl
  |cons q m=>simp at h
 |cons p l ih=>
  cases m with
  |nil=>simp at h
  |cons q m=>
   simp only [List.map_cons,List.cons.injEq] at h;simp only [cg,h.1,ih (i+1) h.2,e6]
theorem iD {α:Type} {f:α->List C} {sz:Nat} (hf:∀a,(f a).length=sz) (l:List α) (k o:Nat) (ds:List C) (x:α) (h:k<l.length) (ho:o+ds.length<=sz) (hx:spl (f l[k]) o ds=f x):spl (ar f l) (k*sz+o) ds=ar f (l.set k x):=by
 have h1:ar f l=ar f (l.take k)++(f l[k]++ar f (l.drop (k+1))):=by
  conv=>lhs;rw [←List.take_append_drop k l,aV,List.drop_eq_getElem_cons h,aY]
 have h2:ar f (l.set k x)=ar f (l.take k)++(f x++ar f (l.drop (k+1))):=by
  have hk:k<(l.set k x).length:=by simpa using h
  conv=>lhs;rw [←List.take_append_drop k (l.set k x),aV,List.drop_eq_getElem_cons hk,aY]
  rw [List.getElem_set_self,List.drop_set];have:(l.set k x).take k=l.take k:=by rw [List.take_set];exact List.set_eq_of_length_le (by rw [List.length_take];omega)
  rw [this];simp
 have h3:(ar f (l.take k)).length=k*sz:=by rw [aS hf,List.length_take,Nat.min_eq_left (Nat.le_of_lt h)]
 have hlen:=hf l[k];have e1:f l[k]=(f l[k]).take o++(((f l[k]).drop o).take ds.length++(f l[k]).drop (o+ds.length)):=by
  rw [←List.drop_drop,List.take_append_drop,List.take_append_drop]
 have e2:f x=(f l[k]).take o++(ds++(f l[k]).drop (o+ds.length)):=by
  rw [←hx];conv=>lhs;rw [e1]
  have:o=((f l[k]).take o).length:=by rw [List.length_take,hlen];omega
  conv=>lhs;arg 2;rw [this]
  exact nJ _ _ _ _ (by rw [List.length_take,List.length_drop,hlen];omega)
 have e4:k*sz+o=(ar f (l.take k)++(f l[k]).take o).length:=by
  rw [List.length_append,h3,List.length_take,hlen];omega
 have e3:ar f l=(ar f (l.take k)++(f l[k]).take o)++(((f l[k]).drop o).take ds.length++((f l[k]).drop (o+ds.length)++ar f (l.drop (k+1)))):=by
  conv=>lhs;rw [h1,e1]
  simp only [List.append_assoc]
 rw [e3,e4,nJ _ _ _ _ (by rw [List.length_take,List.length_drop,hlen];omega),h2,e2];simp only [List.append_assoc]
noncomputable def fM (size:Nat) (es:List GEst) (p:N3):List GEst:=
 if ((es.getD (p.a%size) bM).agrs.length:Int)<2 then es.set (p.a%size) {es.getD (p.a%size) bM with agrs:=(es.getD (p.a%size) bM).agrs++[bgN (es.getD (p.a%size) bM) p]} else es
noncomputable def fN (es:List GEst) (ds:List GDebt) (d:N3):List GDebt:=if (ds.length:Int)<3 then ds++[owN ⟨es,ds⟩ d] else ds
noncomputable def iJ (n:Nat) (cash:List Nat) (list:List N4) (pools:List N3):List GEst:=pools.foldl (fM (1+n%4)) (list.foldl (aJ (1+n%4)) ((List.range (1+n%4)).map (cZ cash)))
noncomputable def vz (n:Nat) (cash:List Nat) (list:List N4) (pools debts:List N3):GGrp:=⟨iJ n cash list pools,debts.foldl (fN (iJ n cash list pools)) []⟩
def okB (e:GEst):Prop:=e.claims.length<=6/\e.agrs.length<=2/\∀a∈e.agrs,a.length<=3/\∀t∈a,t.length<=7
theorem tG (T:T3) (x:Nat) (p:GPart) (n:Nat) (h:T.a.length<=n/\T.b.length<=n/\T.c.length<=n):(T.put x p).a.length<=n+1/\(T.put x p).b.length<=n+1/\(T.put x p).c.length<=n+1:=by
 unfold T3.put;obtain ⟨h1,h2,h3⟩:=h;repeat' split
 all_goals (simp only [List.length_append,List.length_cons,List.length_nil];omega)
theorem rW (agrs:List cw) (p:N3):∀(l:List GClaim) (i:Nat) (T:T3) (n:Nat),(T.a.length<=n/\T.b.length<=n/\T.c.length<=n)->(bgL agrs p l i T).a.length<=n+l.length/\(bgL agrs p l i T).b.length<=n+l.length/\(bgL agrs p l i T).c.length<=n+l.length
 |[],_,_,_,h=>h
 |_::l,i,T,n,h=>by
  have h1:=nR agrs p i T;have:=rW agrs p l (i+1) (bgS agrs p i T) (n+1) (by omega);simp only [bgL,List.length_cons];omega
theorem vA (e:GEst) (p:N3) (h:e.claims.length<=6):(bgN e p).length<=3/\∀t∈bgN e p,t.length<=7:=by
 refine ⟨by simp [bgN],fun t ht=>?_⟩;have h1:=rW e.agrs p e.claims 0 ⟨[],[],[]⟩ 0 (by simp);have h2:(bgT p (bgL e.agrs p e.claims 0 ⟨[],[],[]⟩)).a.length<=7/\(bgT p (bgL e.agrs p e.claims 0 ⟨[],[],[]⟩)).b.length<=7/\(bgT p (bgL e.agrs p e.claims 0 ⟨[],[],[]⟩)).c.length<=7:=by
  unfold bgT;split
  ·have:=tG (bgL e.agrs p e.claims 0 ⟨[],[],[]⟩) (p.a/32%3+1) ⟨-1,true,enc (((p.a/96%7:Nat):Int):Rat)⟩ 6 (by omega);exact this
  omega
 simp only [bgN,List.mem_cons,List.not_mem_nil,or_false] at ht;rcases ht with rfl|rfl|rfl
 ·exact h2.1
 ·exact h2.2.1
 exact h2.2.2
theorem yJ:okB bM:=⟨by simp [bM],by simp [bM],by simp [bM]⟩
theorem ky {Pr:GEst->Prop} {es:List GEst} (h:∀e∈es,Pr e) (h0:Pr bM) (i:Nat):Pr (es.getD i bM):=by
 rw [List.getD_eq_getElem?_getD];cases hx:es[i]? with
 |none=>exact h0
 |some e=>exact h e (List.mem_of_getElem? hx)
theorem nS {Pr:GEst->Prop} {es:List GEst} (h:∀e∈es,Pr e) (i:Nat) {x:GEst} (hx:Pr x):∀e∈es.set i x,Pr e:=fun e he=>by
 rcases List.mem_or_eq_of_mem_set he with h1|rfl
 ·exact h e h1
 exact hx
theorem eX (size:Nat) (es:List GEst) (p:N3) (h:∀e∈es,okB e):∀e∈fM size es p,okB e:=by
 unfold fM;split
 ·rename_i hlt;have h0:=ky h yJ (p.a%size);generalize es.getD (p.a%size) bM=e at *
  refine nS h _ ⟨h0.1,by simp only [List.length_append,List.length_cons,List.length_nil];omega,fun a ha=>?_⟩;rcases List.mem_append.1 ha with h1|h1
  ·exact h0.2.2 a h1
  obtain rfl:a=bgN e p:=by simpa using h1
  exact vA e p h0.1
 exact h
theorem nT (size:Nat) (es:List GEst) (p:N3):(fM size es p).length=es.length:=by unfold fM;split<;>simp
theorem kl (size:Nat) (es:List GEst) (x:N4):(aJ size es x).length=es.length:=by unfold aJ;split<;>simp
def okC (e:GEst):Prop:=e.claims.length<=6/\e.agrs=[]
theorem bN (size:Nat) (es:List GEst) (x:N4) (h:∀e∈es,okC e):∀e∈aJ size es x,okC e:=by
 unfold aJ;split
 ·exact h
 rename_i hlt;have h0:=ky h (show okC bM from ⟨by simp [bM],rfl⟩) (x.a%size);generalize es.getD (x.a%size) bM=e at *
 exact nS h _ ⟨by simp only [List.length_append,List.length_cons,List.length_nil];omega,h0.2⟩
theorem rX (debts:List GDebt) (p:N3) (i:Nat):∀(l:List GClaim) (c:Nat) (s:OS),s.l.length<=4->(owC debts p i l c s).l.length<=4
 |[],_,_,h=>h
 |y::l,c,s,h=>rX debts p i l (c+1) _ ((xV debts p i c y s).2 h)
theorem rY (debts:List GDebt) (p:N3):∀(l:List GEst) (i:Nat) (s:OS),s.l.length<=4->(owE debts p l i s).l.length<=4
 |[],_,_,h=>h
 |e::l,i,s,h=>rY debts p l (i+1) _ (rX debts p i e.claims 0 s h)
theorem rZ (g:GGrp) (p:N3):(owN g p).legs.length<=4:=by
 have:=rY g.debts p g.ests 0 ⟨0,0,[]⟩ (by simp);unfold owN;dsimp only;split
 ·rw [jC];exact this
 exact this
theorem py (es:List GEst) (ds:List GDebt) (d:N3) (h:∀x∈ds,x.legs.length<=4) (hl:ds.length<=3):(∀x∈fN es ds d,x.legs.length<=4)/\(fN es ds d).length<=3:=by
 unfold fN;split
 ·refine ⟨fun x hx=>?_,by simp only [List.length_append,List.length_cons,List.length_nil];omega⟩;rcases List.mem_append.1 hx with h1|h1
  ·exact h x h1
  obtain rfl:x=owN ⟨es,ds⟩ d:=by simpa using h1
  exact rZ _ _
 exact ⟨h,hl⟩
def vB (n:Nat):List C:=[.lit (.int .u16 n)]
theorem vD (n:Nat):(vB n).length=1:=rfl
def cN4 (x:N4):List C:=[.lit (.int .u16 x.a),.lit (.int .u16 x.b),.lit (.int .u16 x.c),.lit (.int .u16 x.d)]
theorem Kh (x:N4):(cN4 x).length=4:=rfl
theorem nU (x:N3):(cN3 x).length=3:=rfl
theorem Kc (n:Nat):av (vB n)=true:=rfl
theorem J1 (x:N4):av (cN4 x)=true:=rfl
theorem Kt (x:N3):av (cN3 x)=true:=rfl
end Go.Proofs.YtcgpghifhehlhaaGreatDoor
