/- Copies of groups with clean numbers, the reference's side; walked by the abstract machine. -/
import Derived.Test.YtcgpghifhehlhaaGreatDoorSplM
import Derived.Test.YtcgpghifhehlhaaGreatDoorDrawWM
import Derived.Test.YtcgpghifhehlhaaGreatDoorAbGM
import Derived.Test.YtcgpghifhehlhaaGreatDoorBl3M
import Derived.Test.YtcgpghifhehlhaaGreatDoorLawM
import Derived.Test.YtcgpghifhehlhaaGreatDoorGc1M
set_option linter.unusedVariables false
set_option maxHeartbeats 4000000
set_option maxRecDepth 100000
set_option linter.unusedSimpArgs false
set_option linter.defProp false
namespace Go.Proofs.YtcgpghifhehlhaaGreatDoor
open Go Go.RowKit Go.Proofs.Tryz
theorem Js {r:GRat} (h:cqR r):ch prog 41 [.agg (cS r)] (.val (.agg (cS (clR r)))):=Mo r (Nat.le_trans h.1 (by decide)) (Nat.le_trans h.2 (by decide))
def F46:=And.intro zS (And.intro tf1 (And.intro tf6 (And.intro tf2 (And.intro tf0 (And.intro tf8 (And.intro mf (And.intro pi (And.intro tf3 (And.intro pn (And.intro tu (And.intro jS (And.intro Ac (And.intro nL (tf5))))))))))))))
theorem F47:type_of%F46:=F46
theorem KI (a:cw) (ha:a.length<=1000000/\∀t∈a,t.length<=1000000/\∀p∈t,cqR p.cap):ch prog 85 [.agg (aU a)] (.val (.agg (aU (clA a)))):=by
 have hn1:=ha.1;refine bF func85 rfl (by decide) (N:=48) rfl (by simp) (R:=[.cell 2 50]) rfl fun en k0=>?_
 refine awN ?_;simp only [F47,seval,aU];repeat refine ob ?_
 refine awN ?_;simp only [F47,seval,aU];repeat refine ob ?_
 refine awN ?_;simp only [F47,seval,aU];repeat refine ob ?_
 refine dE 3 0 45 _ 47 1 (by decide) (by rfl) (by decide) (by simp) (by rfl) ?_;refine aQ [1,2,3,4] [1,2,3,45] ?_;try simp only [aq,F47,seval,aU,ay,clT,bo,List.length_append,List.length_cons,List.length_nil,List.length_map]
 repeat' first|apply awS|apply awB
 refine aB (fun n st=>∃i2 ot s6 nx,i2<=a.length/\n=a.length-i2/\ot++List.map clT (a.drop i2)=[]++List.map clT a/\ot.length=i2/\st=⟨mkT [(1,.val (.one (.ptr 1 0 0))),(2,.val (.one (.ptr 2 1 0))),(3,.val (.one (.ptr 3 2 0))),(4,one (.int .i64 i2))],mkH [(1,⟨0,50,1,1,aU a⟩),(2,⟨1,50,1,1,[.lit (.slice none 0 0)]⟩),(3,⟨2,50,1,1,[.own 45 s6 ot.length 1]⟩),(45,⟨s6,47,1,ot.length,ar bo ot⟩)],nx,0⟩) (a.length) ⟨0,[],_,_,by omega,by omega,by rfl,(by first|omega|assumption|rfl|simp|(simp;omega)),rfl⟩ ?_;rintro n0 st ⟨i2,ot,s6,nx0,hk0,rfl,hL0,hV0_1,rfl⟩;by_cases hlt0:i2<a.length
 ·skip;have hI0:(i2:Int)<(a.length:Int):=by omega
  have hat0:=aO eI a i2 hlt0;try rw [Nat.mul_one] at hat0
  rw [List.drop_eq_getElem_cons hlt0] at hL0;have hct:=ha.2 _ (List.getElem_mem hlt0);have hn4:=hct.1;generalize a[i2]=t at *
  simp only [List.map_cons,List.map_nil,List.append_nil] at hL0;refine awN ?_;simp only [F47,seval,aU,hI0,hat0];repeat refine ob ?_
  refine awT ?_;refine awK ?_;simp only [F47,seval];refine awN ?_;simp only [F47,seval,aU,hI0,hat0];repeat refine ob ?_
  refine awN ?_;simp only [F47,seval,aU,hI0,hat0];repeat refine ob ?_
  refine rS 5 40 46 5 (by decide) (by rfl) ?_;refine aQ [1,2,3,4,5,6] [1,2,3,45,40] ?_;try simp only [aq,F47,seval,aU,hI0,hat0,ay,clP,aT,List.length_append,List.length_cons,List.length_nil]
  repeat' first|apply awS|apply awB
  refine aB (fun n st=>∃i3 op sp nx,i3<=t.length/\n=t.length-i3/\op++List.map clP (t.drop i3)=[]++List.map clP t/\op.length=i3/\st=⟨mkT [(1,.val (.one (.ptr 1 0 0))),(2,.val (.one (.ptr 2 1 0))),(3,.val (.one (.ptr 3 2 0))),(4,one (.int .i64 i2)),(5,.val (.one (.own 40 sp op.length 5))),(6,one (.int .i64 i3))],mkH [(1,⟨0,50,1,1,aU a⟩),(2,⟨1,50,1,1,[.lit (.slice none 0 0)]⟩),(3,⟨2,50,1,1,[.own 45 s6 ot.length 1]⟩),(45,⟨s6,47,1,ot.length,ar bo ot⟩),(40,⟨sp,46,5,op.length,ar aT op⟩)],nx,0⟩) (t.length) ⟨0,[],_,_,by omega,by omega,by rfl,(by first|omega|assumption|rfl|simp|(simp;omega)),rfl⟩ ?_;rintro n1 st ⟨i3,op,sp,nx1,hk1,rfl,hL1,hV1_1,rfl⟩;by_cases hlt1:i3<t.length
  ·skip;have hI1:(i3:Int)<(t.length:Int):=by omega
   have hat1:=aO gj t i3 hlt1;try rw [Nat.mul_one] at hat1
   rw [List.drop_eq_getElem_cons hlt1] at hL1;have hpc:=hct.2 _ (List.getElem_mem hlt1);generalize t[i3]=p at *
   simp only [List.map_cons,List.map_nil,List.append_nil] at hL1;refine awN ?_;simp only [F47,seval,aU,hI0,hat0,hI1,hat1,hat0,bo];repeat refine ob ?_
   refine awT ?_;refine awK ?_;simp only [F47,seval];refine awN ?_;simp only [F47,seval,aU,hI0,hat0,hI1,hat1,hat0,bo,hat1,aT];repeat refine ob ?_
   refine awN ?_;simp only [F47,seval,aU,hI0,hat0,hI1,hat1,aT,cS];repeat refine ob ?_
   refine ⟨_,(Js hpc),rfl,?_⟩;try simp only [aq,F47,seval,aU,hI0,hat0,hI1,hat1,aT,cS]
   repeat refine ob ?_
   refine awN ?_;simp only [F47,seval,aU,hI0,hat0,hI1,hat1];repeat refine ob ?_
   refine awN ?_;simp only [F47,seval,aU,hI0,hat0,hI1,hat1];repeat refine ob ?_
   repeat refine ob ?_
   refine ⟨_,aH [1,2,3,4,5,6] [1,2,3,45,40],t.length-(i3+1),by omega,i3+1,(op++[clP p]),?a11_sp,?a11_nx,by omega,rfl,?i11_0,?i11_1,?st11⟩;case st11=>(simp only [F47,seval,ay,clP,aT,List.length_append,List.length_cons,List.length_nil,aU,hI0,hat0,hI1,hat1];first|rfl|(simp [ay,clP,aT,List.length_append,List.length_cons,List.length_nil,hI0,hat0,hI1,hat1,Nat.add_mul];done))
   case i11_0=>(simpa using hL1)
   all_goals (first|omega|assumption|(simp;omega)|(simp_all;done))
  skip;obtain rfl:i3=t.length:=by omega
  have hI1:¬(t.length:Int)<(t.length:Int):=by omega
  rw [List.drop_length] at hL1;simp only [List.map_cons,List.map_nil,List.append_nil] at hL1;subst hL1;refine awN ?_;simp only [F47,seval,aU,hI0,hat0,hI1,hat0,bo];repeat refine ob ?_
  refine awF ?_;refine awQ ?_;simp only [F47,seval];refine dL (t:=5) (by rfl) (by rfl) (by decide) (by rfl) ?_;simp only [F47,seval];refine awN ?_;simp only [F47,seval,aU,hI0,hat0,hI1];repeat refine ob ?_
  refine awN ?_;simp only [F47,seval,aU,hI0,hat0,hI1];repeat refine ob ?_
  repeat refine ob ?_
  refine ⟨_,aH [1,2,3,4] [1,2,3,45],a.length-(i2+1),by omega,i2+1,(ot++[clT t]),?a15_s6,?a15_nx,by omega,rfl,?i15_0,?i15_1,?st15⟩;case st15=>(simp only [F47,seval,ay,clT,bo,List.length_append,List.length_cons,List.length_nil,List.length_map,aU,hI0,hat0,hI1];first|rfl|(simp [ay,clT,bo,List.length_append,List.length_cons,List.length_nil,List.length_map,hI0,hat0,hI1,Nat.add_mul];done))
  case i15_0=>(simpa using hL0)
  all_goals (first|omega|assumption|(simp;omega)|(simp_all;done))
 skip;obtain rfl:i2=a.length:=by omega
 have hI0:¬(a.length:Int)<(a.length:Int):=by omega
 rw [List.drop_length] at hL0;simp only [List.map_cons,List.map_nil,List.append_nil] at hL0;subst hL0;refine awN ?_;simp only [F47,seval,aU,hI0];repeat refine ob ?_
 refine awF ?_;refine awQ ?_;simp only [F47,seval];refine ao 45 3 0 (by rfl) (by rfl) (by rfl) (by decide) (by show (1:Nat)≠0;decide) (by show (1:Nat)≠0;decide) rfl ?_;simp only [F47,seval];refine awN ?_;simp only [F47,seval,aU,hI0];repeat refine ob ?_
 refine awX ?_;simp only [F47,seval];simp [clA,aU,av,az,ab cA]
def F48:=And.intro zS (And.intro yE (And.intro Jy (And.intro nN (And.intro KF (And.intro zw (And.intro pj (And.intro vd (And.intro u6 (And.intro tA (And.intro u9 (And.intro xe (And.intro xf (And.intro yG (And.intro pk (And.intro zA (And.intro tv (And.intro qO (And.intro zB (And.intro tx (And.intro zZ (And.intro tz (And.intro xg (And.intro pn (And.intro nK (And.intro zC (And.intro tC (And.intro xh (And.intro jS (And.intro Ad (And.intro Ab (And.intro nL (And.intro po (And.intro z6 (And.intro z7 (And.intro xj (yC))))))))))))))))))))))))))))))))))))
theorem F49:type_of%F48:=F48
theorem Lo (g:GGrp) (hg:cqG g) (H:Hp) (ny:Nat) (hbH:∀y B,H y=some B->y<200):dk prog 40 [.agg (au g)] H ny
  (fun res H' _=>∃ps s t,ps.map (·.1)=g.ests.map clE/\res= .val (.agg [.own 272 s g.ests.length 5,.sh 4 (g.debts.map clD).length (ar cn (g.debts.map clD))])/\H'=bW (orT 103 38 ps H) [(272,⟨s,36,5,g.ests.length,eRw (aR 103) ps 0⟩),(202,⟨t,28,2,1,[.own 272 s g.ests.length 5,.sh 4 (g.debts.map clD).length (ar cn (g.debts.map clD))]⟩)]):=by
 have hn1:=hg.1;have hn2:=hg.2.2.1;refine fm 200 func40 rfl (by decide) (N:=100) rfl (by simp) (Rl:=[.cell 2 28]) rfl fun en k0=>?_
 refine awN ?_;simp only [F49,seval,au];repeat refine ob ?_
 refine awN ?_;simp only [F49,seval,au];repeat refine ob ?_
 refine awN ?_;simp only [F49,seval,au];repeat refine ob ?_
 refine dE 203 0 272 _ 36 5 (by decide) (by rfl) (by decide) (by simp) (by rfl) ?_;refine aE H [1,2,3,4] [201,202,203,272] (by intro y B h;right;have h9:=hbH y B h;simp only [aj];(repeat rw [if_neg (by omega)]);exact h) ?_;try simp only [aq,F49,seval,au]
 repeat' first|apply awS|apply awB
 refine aB (fun n st=>∃k ps s nx,k<=g.ests.length/\n=g.ests.length-k/\ps.map (·.1)=(g.ests.take k).map clE/\st=⟨mkT [(1,.val (.one (.ptr 201 ny 0))),(2,.val (.one (.ptr 202 (ny+1) 0))),(3,.val (.one (.ptr 203 (ny+2) 0))),(4,one (.int .i64 k))],bW (orT 103 38 ps H) [(201,⟨ny,28,2,1,au g⟩),(202,⟨ny+1,28,2,1,[.lit (.slice none 0 0),.lit (.slice none 0 0)]⟩),(203,⟨ny+2,28,2,1,[.own 272 s k 5,.lit (.slice none 0 0)]⟩),(272,⟨s,36,5,k,eRw (aR 103) ps 0⟩)],nx,200⟩) (g.ests.length) ⟨0,[],_,_,by omega,by omega,by simp,by rw [KL];rfl⟩ ?_;rintro n0 st ⟨k,ps,s,nx0,hk,rfl,hps,rfl⟩;by_cases hlt0:(k:Int)<(g.ests.length:Int)
 ·refine awN ?_;simp only [F49,seval,au,hlt0,au];repeat refine ob ?_
  refine awT ?_;refine awK ?_;simp only [F49,seval];have hkl:k<g.ests.length:=by omega
  have hat:=aO de g.ests k hkl;obtain ⟨e,hXe⟩:∃e,g.ests[k]=e:=⟨_,rfl⟩;have hce:cqE e:=hXe▸hg.2.1 _ (List.getElem_mem hkl);have hn3:=hce.2.1;have hn4:=hce.2.2.2.1;rw [hXe] at hat;have hpl:ps.length=k:=by have:=congrArg List.length hps;simp at this;omega
  have hrl:=kz (aR 103) ps 0;refine awN ?_;simp only [F49,seval,au,hlt0,au,hat,bh];repeat refine ob ?_
  refine awN ?_;simp only [F49,seval,au,hlt0,bh,cS];repeat refine ob ?_
  refine ⟨_,(Js hce.1),(by first|rfl|simp [bu,aI,av,az,A1.cells,aU,ab cA,cS]),?_⟩;try simp only [aq,F49,seval,au,hlt0,bh,cS]
  repeat refine ob ?_
  refine awN ?_;simp only [F49,seval,au,hlt0];repeat refine ob ?_
  refine dE 206 3 248 _ 38 5 (by decide) (by rfl) (by decide) (by simp) (by rfl) ?_;refine aE (orT 103 38 ps H) [1,2,3,4,5,6,7] [201,202,203,272,205,206,248] (onG hbH (fun x h=>by simp only [aj];repeat rw [if_neg (by omega)]) _) ?_;try simp only [aq,F49,seval,au,hlt0,ay,clC,aA,List.length_append,List.length_cons,List.length_nil]
  repeat' first|apply awS|apply awB
  refine aB (fun n st=>∃i1 out sc nx,i1<=e.claims.length/\n=e.claims.length-i1/\out++List.map clC (e.claims.drop i1)=[]++List.map clC e.claims/\out.length=i1/\st=⟨mkT [(1,.val (.one (.ptr 201 ny 0))),(2,.val (.one (.ptr 202 (ny+1) 0))),(3,.val (.one (.ptr 203 (ny+2) 0))),(4,one (.int .i64 k)),(5,.val (.one (.ptr 205 (nx0+0) 0))),(6,.val (.one (.ptr 206 (nx0+1) 0))),(7,one (.int .i64 i1))],bW (orT 103 38 ps H) [(201,⟨ny,28,2,1,au g⟩),(202,⟨ny+1,28,2,1,[.lit (.slice none 0 0),.lit (.slice none 0 0)]⟩),(203,⟨ny+2,28,2,1,[.own 272 s k 5,.lit (.slice none 0 0)]⟩),(272,⟨s,36,5,k,eRw (aR 103) ps 0⟩),(205,⟨nx0+0,36,5,1,bh e⟩),(206,⟨nx0+1,36,5,1,[.lit (.bool (clR e.cash).neg),.lit (.string (clR e.cash).num),.lit (.string (clR e.cash).den),.own 248 sc out.length 5,.lit (.slice none 0 0)]⟩),(248,⟨sc,38,5,out.length,ar aA out⟩)],nx,200⟩) (e.claims.length) ⟨0,[],_,_,by omega,by omega,by rfl,(by first|omega|assumption|rfl|simp|(simp;omega)),rfl⟩ ?_;rintro n1 st ⟨i1,out,sc,nx1,hk1,rfl,hL1,hV1_1,rfl⟩;by_cases hlt1:i1<e.claims.length
  ·have hI1:(i1:Int)<(e.claims.length:Int):=by omega
   have hat1:=aO bX e.claims i1 hlt1;try rw [Nat.mul_one] at hat1
   rw [List.drop_eq_getElem_cons hlt1] at hL1;have hcc:=hce.2.2.1 _ (List.getElem_mem hlt1);generalize e.claims[i1]=c at *
   simp only [List.map_cons,List.map_nil,List.append_nil] at hL1;refine awN ?_;simp only [F49,seval,au,hlt0,hI1,hat1,bh];repeat refine ob ?_
   refine awT ?_;refine awK ?_;simp only [F49,seval];refine awN ?_;simp only [F49,seval,au,hlt0,hI1,hat1,bh,hat1,aA];repeat refine ob ?_
   refine awN ?_;simp only [F49,seval,au,hlt0,hI1,hat1,aA,cS];repeat refine ob ?_
   refine ⟨_,(Js hcc),(by first|rfl|simp [bu,aI,av,az,A1.cells,aU,ab cA,cS]),?_⟩;try simp only [aq,F49,seval,au,hlt0,hI1,hat1,aA,cS]
   repeat refine ob ?_
   refine awN ?_;simp only [F49,seval,au,hlt0,hI1,hat1];repeat refine ob ?_
   refine awN ?_;simp only [F49,seval,au,hlt0,hI1,hat1];repeat refine ob ?_
   repeat refine ob ?_
   refine ⟨_,bE (orT 103 38 ps H) [1,2,3,4,5,6,7] [201,202,203,272,205,206,248] (onG hbH (fun x h=>by simp only [aj];repeat rw [if_neg (by omega)]) _),e.claims.length-(i1+1),by omega,i1+1,(out++[clC c]),?a12_sc,?a12_nx,by omega,rfl,?i12_0,?i12_1,?st12⟩;case st12=>(simp only [F49,seval,ay,clC,aA,List.length_append,List.length_cons,List.length_nil,au,hlt0,hI1,hat1];first|rfl|(simp [ay,clC,aA,List.length_append,List.length_cons,List.length_nil,hlt0,hI1,hat1,Nat.add_mul];done))
   case i12_0=>(simpa using hL1)
   all_goals (first|omega|assumption|(simp;omega)|(simp_all;done))
  obtain rfl:i1=e.claims.length:=by omega
  have hI1:¬(e.claims.length:Int)<(e.claims.length:Int):=by omega
  rw [List.drop_length] at hL1;simp only [List.map_cons,List.map_nil,List.append_nil] at hL1;have hol:=hV1_1;subst hL1;refine awN ?_;simp only [F49,seval,au,hlt0,hI1,bh];repeat refine ob ?_
  refine awF ?_;refine awQ ?_;simp only [F49,seval];refine awN ?_;simp only [F49,seval,au,hlt0,hI1];repeat refine ob ?_
  refine dE 206 4 266 _ 50 1 (by decide) (by rfl) (by decide) (by simp) (by rfl) ?_;refine aE (orT 103 38 ps H) [1,2,3,4,5,6,9] [201,202,203,272,205,206,248,266] (onG hbH (fun x h=>by simp only [aj];repeat rw [if_neg (by omega)]) _) ?_;try simp only [aq,F49,seval,au,hlt0,hI1,ay,aU,List.length_append,List.length_cons,List.length_nil,List.length_map]
  repeat' first|apply awS|apply awB
  refine aB (fun n st=>∃i2 oa sa nx,i2<=e.agrs.length/\n=e.agrs.length-i2/\oa++List.map clA (e.agrs.drop i2)=[]++List.map clA e.agrs/\oa.length=i2/\st=⟨mkT [(1,.val (.one (.ptr 201 ny 0))),(2,.val (.one (.ptr 202 (ny+1) 0))),(3,.val (.one (.ptr 203 (ny+2) 0))),(4,one (.int .i64 k)),(5,.val (.one (.ptr 205 (nx0+0) 0))),(6,.val (.one (.ptr 206 (nx0+1) 0))),(9,one (.int .i64 i2))],bW (orT 103 38 ps H) [(201,⟨ny,28,2,1,au g⟩),(202,⟨ny+1,28,2,1,[.lit (.slice none 0 0),.lit (.slice none 0 0)]⟩),(203,⟨ny+2,28,2,1,[.own 272 s k 5,.lit (.slice none 0 0)]⟩),(272,⟨s,36,5,k,eRw (aR 103) ps 0⟩),(205,⟨nx0+0,36,5,1,bh e⟩),(206,⟨nx0+1,36,5,1,[.lit (.bool (clR e.cash).neg),.lit (.string (clR e.cash).num),.lit (.string (clR e.cash).den),.own 248 sc e.claims.length 5,.own 266 sa oa.length 1]⟩),(248,⟨sc,38,5,e.claims.length,ar aA (e.claims.map clC)⟩),(266,⟨sa,50,1,oa.length,ar aU oa⟩)],nx,200⟩) (e.agrs.length) ⟨0,[],_,_,by omega,by omega,by rfl,(by first|omega|assumption|rfl|simp|(simp;omega)),rfl⟩ ?_;rintro n2 st ⟨i2,oa,sa,nx2,hk2,rfl,hL2,hV2_1,rfl⟩;by_cases hlt2:i2<e.agrs.length
  ·have hI2:(i2:Int)<(e.agrs.length:Int):=by omega
   have hat2:=aO dG e.agrs i2 hlt2;try rw [Nat.mul_one] at hat2
   rw [List.drop_eq_getElem_cons hlt2] at hL2;have hca:=hce.2.2.2.2 _ (List.getElem_mem hlt2);generalize e.agrs[i2]=a at *
   simp only [List.map_cons,List.map_nil,List.append_nil] at hL2;refine awN ?_;simp only [F49,seval,au,hlt0,hI1,hI2,hat2,bh];repeat refine ob ?_
   refine awT ?_;refine awK ?_;simp only [F49,seval];refine awD (scT 0 7 (scq [14,16,18,21,22] .nil)) [0,0,0,0,0,0,0,0,0,0,0,0] ?_;simp only [F49,seval,au,hlt0,hI1,hI2,hat2,bh,hat2,ab bg,ab cA,aU];repeat refine ob ?_
   refine ⟨_,(KI a hca),(by first|rfl|simp [bu,aI,av,az,A1.cells,aU,ab cA,cS]),?_⟩;try simp only [aq,F49,seval,au,hlt0,hI1,hI2,hat2,bh,hat2,ab bg,ab cA,aU]
   repeat refine ob ?_
   refine awN ?_;simp only [F49,seval,au,hlt0,hI1,hI2,hat2];repeat refine ob ?_
   repeat refine ob ?_
   refine ⟨_,bE (orT 103 38 ps H) [1,2,3,4,5,6,9] [201,202,203,272,205,206,248,266] (onG hbH (fun x h=>by simp only [aj];repeat rw [if_neg (by omega)]) _),e.agrs.length-(i2+1),by omega,i2+1,(oa++[clA a]),?a18_sa,?a18_nx,by omega,rfl,?i18_0,?i18_1,?st18⟩;case st18=>(simp only [F49,seval,ay,aU,List.length_append,List.length_cons,List.length_nil,List.length_map,au,hlt0,hI1,hI2,hat2];first|rfl|(simp [ay,aU,List.length_append,List.length_cons,List.length_nil,List.length_map,hlt0,hI1,hI2,hat2,Nat.add_mul];done))
   case i18_0=>(simpa using hL2)
   all_goals (first|omega|assumption|(simp;omega)|(simp_all;done))
  obtain rfl:i2=e.agrs.length:=by omega
  have hI2:¬(e.agrs.length:Int)<(e.agrs.length:Int):=by omega
  rw [List.drop_length] at hL2;simp only [List.map_cons,List.map_nil,List.append_nil] at hL2;subst hL2;refine awN ?_;simp only [F49,seval,au,hlt0,hI1,hI2,bh];repeat refine ob ?_
  refine awF ?_;refine awQ ?_;simp only [F49,seval];refine ao 266 206 4 (by rfl) (by rfl) (by rfl) (by decide) (by show (1:Nat)≠0;decide) (by show (5:Nat)≠0;decide) rfl ?_;simp only [F49,seval];refine awN ?_;simp only [F49,seval,au,hlt0,hI1,hI2,hrl,hpl];repeat refine ob ?_
  refine eO 248 (1000*(k+1)+103) 272 (k*5+3) (by rfl) (by rfl) (by rw [←hpl];exact J3 ps _ _ _ _ _) (by decide) (by omega) (by show (5:Nat)≠0;decide) (by show (5:Nat)≠0;decide) rfl ?_;have hsn:=fun z x=>J2 ps (clE e,z) x
  rw [hpl] at hsn;simp only [clE,List.length_map] at hsn;refine awN ?_;simp only [F49,seval,au,hlt0,hI1,hI2];repeat refine ob ?_
  refine ⟨_,bE (orT 103 38 (ps++[(clE e,?zz23)]) H) [1,2,3,4] [201,202,203,272] ?pf23,g.ests.length-(k+1),by omega,k+1,ps++[(clE e,?zz23)],?ss23,?na23,by omega,rfl,?mp23,?st23⟩;case st23=>
   simp only [F49,seval,List.length_map];rw [hsn];try rfl
  case mp23=>rw [List.map_append,hps,List.take_succ_eq_append_getElem hkl,hXe,List.map_append];rfl
  case pf23=>
   intro y B h;right;rcases vT h with ⟨a,r,rfl,h2,rfl⟩|h8
   ·by_cases ha:a=k
    ·subst ha;rw [List.getElem?_append_right (by omega),hpl,Nat.sub_self] at h2;obtain rfl:=Option.some.inj h2;simp only [aj];rw [if_neg (by omega)];first|rw [if_pos rfl]|rw [if_pos trivial]
     simp [clE]
    have hak:a<k:=by have:=(List.getElem?_eq_some_iff.1 h2).1;simp at this;omega
    rw [List.getElem?_append_left (by omega)] at h2;simp only [aj];repeat rw [if_neg (by omega)]
    exact yZ (by decide) h2
   have h9:=hbH y B h8;simp only [aj];repeat rw [if_neg (by omega)]
   rw [xF (by omega)];exact h8
 refine awN ?_;simp only [F49,seval,au,hlt0,au];repeat refine ob ?_
 refine awF ?_;refine awQ ?_;simp only [F49,seval];refine awN ?_;simp only [F49,seval,au,hlt0];repeat refine ob ?_
 obtain rfl:k=g.ests.length:=by omega
 rw [List.take_length] at hps;refine dE 203 1 297 _ 42 4 (by decide) (by rfl) (by decide) (by simp) (by rfl) ?_;refine aE (orT 103 38 ps H) [1,2,3,10] [201,202,203,272,297] (onG hbH (fun x h=>by simp only [aj];repeat rw [if_neg (by omega)]) _) ?_;try simp only [aq,F49,seval,au,hlt0,ay,clD,cn,List.length_append,List.length_cons,List.length_nil]
 repeat' first|apply awS|apply awB
 refine aB (fun n st=>∃i3 od sd nx,i3<=g.debts.length/\n=g.debts.length-i3/\od++List.map clD (g.debts.drop i3)=[]++List.map clD g.debts/\od.length=i3/\st=⟨mkT [(1,.val (.one (.ptr 201 ny 0))),(2,.val (.one (.ptr 202 (ny+1) 0))),(3,.val (.one (.ptr 203 (ny+2) 0))),(10,one (.int .i64 i3))],bW (orT 103 38 ps H) [(201,⟨ny,28,2,1,au g⟩),(202,⟨ny+1,28,2,1,[.lit (.slice none 0 0),.lit (.slice none 0 0)]⟩),(203,⟨ny+2,28,2,1,[.own 272 s g.ests.length 5,.own 297 sd od.length 4]⟩),(272,⟨s,36,5,g.ests.length,eRw (aR 103) ps 0⟩),(297,⟨sd,42,4,od.length,ar cn od⟩)],nx,200⟩) (g.debts.length) ⟨0,[],_,_,by omega,by omega,by rfl,(by first|omega|assumption|rfl|simp|(simp;omega)),rfl⟩ ?_;rintro n3 st ⟨i3,od,sd,nx3,hk3,rfl,hL3,hV3_1,rfl⟩;by_cases hlt3:i3<g.debts.length
 ·have hI3:(i3:Int)<(g.debts.length:Int):=by omega
  have hat3:=aO dT g.debts i3 hlt3;try rw [Nat.mul_one] at hat3
  rw [List.drop_eq_getElem_cons hlt3] at hL3;have hdd:=hg.2.2.2 _ (List.getElem_mem hlt3);generalize g.debts[i3]=d at *
  simp only [List.map_cons,List.map_nil,List.append_nil] at hL3;refine awN ?_;simp only [F49,seval,au,hlt0,hI3,hat3,au];repeat refine ob ?_
  refine awT ?_;refine awK ?_;simp only [F49,seval];refine awN ?_;simp only [F49,seval,au,hlt0,hI3,hat3,au,hat3,cn];repeat refine ob ?_
  repeat' first|apply awS|apply awB
  refine KH [] (by kernel_rfl) (.take 0 (.take 2 (.take 3 (.take 6 (.take 7 (.alt 1 (.alt 4 (.alt 5 (.alt 8 (.take 9 (.alt 10 (.alt 11 (.take 12 (.alt 13 .nil .none)) .none) .none)) .none) .none) (.alt 5 (.alt 4 (.alt 8 (.take 9 (.alt 10 (.alt 11 (.take 12 (.alt 13 .nil .none)) .none) .none)) .none) .none) .none)) (.alt 4 (.alt 1 (.alt 5 (.alt 8 (.take 9 (.alt 10 (.alt 11 (.take 12 (.alt 13 .nil .none)) .none) .none)) .none) .none) (.alt 5 (.alt 1 (.alt 8 (.take 9 (.alt 10 (.alt 11 (.take 12 (.alt 13 .nil .none)) .none) .none)) .none) (.alt 8 (.take 1 (.take 9 (.alt 10 (.alt 11 (.take 12 (.alt 13 .nil .none)) .none) .none))) .none)) .none)) (.alt 5 (.alt 1 (.alt 4 (.alt 8 (.take 9 (.alt 10 (.alt 11 (.take 12 (.alt 13 .nil .none)) .none) .none)) .none) .none) (.alt 4 (.alt 1 (.alt 8 (.take 9 (.alt 10 (.alt 11 (.take 12 (.alt 13 .nil .none)) .none) .none)) .none) (.alt 8 (.take 1 (.take 9 (.alt 10 (.alt 11 (.take 12 (.alt 13 .nil .none)) .none) .none))) .none)) .none)) .none)))))))) (by kernel_rfl) (gs:=[none,none,none,none,none,none,none,none,none,none,none,none,none,none]) (by kernel_rfl) (by simp only [(id SS),(id SW),seval,reduceIte,ne_eq];rfl) (by decide) ?_;simp only [F49,seval,au,hlt0,hI3,hat3,cn,cS,(id SW),and_true,and_self,false_and];repeat refine ob ?_
  refine ⟨?_,?_,?_⟩
  ·repeat refine ob ?_
   refine ⟨?_,?_⟩
   ·repeat refine ob ?_
    refine ⟨_,(Js hdd.1),(by first|rfl|simp [bu,aI,av,az,A1.cells,aU,ab cA,cS]),?_⟩;try simp only [aq,F49,seval,au,hlt0,hI3,hat3,cn,cS,(id SW),and_true,and_self,false_and]
    repeat refine ob ?_
    refine ao 294 297 (od.length*4+3) (by rfl) (by rfl) (by rw [List.getElem?_append_right (by rw [aS dT];omega),aS dT,Nat.add_sub_cancel_left];rfl) (by decide) (by show (2:Nat)≠0;decide) (by show (4:Nat)≠0;decide) rfl ?_;have hst9:∀a b c x y:C,(ar cn od++[a,b,c,x]).set (od.length*4+3) y=ar cn od++[a,b,c,y]:=fun a b c x y=>by rw [List.set_append_right _ _ (by rw [aS dT];omega),aS dT,Nat.add_sub_cancel_left];rfl
    simp only [F49,seval,hst9];refine awN ?_;simp only [F49,seval,au,hlt0,hI3,hat3];repeat refine ob ?_
    repeat refine ob ?_
    refine ⟨_,bE (orT 103 38 ps H) [1,2,3,10] [201,202,203,272,297] (onG hbH (fun x h=>by simp only [aj];repeat rw [if_neg (by omega)]) _),g.debts.length-(i3+1),by omega,i3+1,(od++[clD d]),?a29_sd,?a29_nx,by omega,rfl,?i29_0,?i29_1,?st29⟩;case st29=>(simp only [F49,seval,ay,clD,cn,List.length_append,List.length_cons,List.length_nil,au,hlt0,hI3,hat3];first|rfl|(simp [ay,clD,cn,List.length_append,List.length_cons,List.length_nil,hlt0,hI3,hat3,Nat.add_mul];done))
    case i29_0=>(simpa using hL3)
    all_goals (first|omega|assumption|(simp;omega)|(simp_all;done))
   repeat refine ob ?_
   refine ⟨_,(Js hdd.1),(by first|rfl|simp [bu,aI,av,az,A1.cells,aU,ab cA,cS]),?_⟩;try simp only [aq,F49,seval,au,hlt0,hI3,hat3,cn,cS,(id SW),and_true,and_self,false_and]
   repeat refine ob ?_
   refine ao 294 297 (od.length*4+3) (by rfl) (by rfl) (by rw [List.getElem?_append_right (by rw [aS dT];omega),aS dT,Nat.add_sub_cancel_left];rfl) (by decide) (by show (2:Nat)≠0;decide) (by show (4:Nat)≠0;decide) rfl ?_;have hst9:∀a b c x y:C,(ar cn od++[a,b,c,x]).set (od.length*4+3) y=ar cn od++[a,b,c,y]:=fun a b c x y=>by rw [List.set_append_right _ _ (by rw [aS dT];omega),aS dT,Nat.add_sub_cancel_left];rfl
   simp only [F49,seval,hst9];refine awN ?_;simp only [F49,seval,au,hlt0,hI3,hat3];repeat refine ob ?_
   repeat refine ob ?_
   refine ⟨_,bE (orT 103 38 ps H) [1,2,3,10] [201,202,203,272,297] (onG hbH (fun x h=>by simp only [aj];repeat rw [if_neg (by omega)]) _),g.debts.length-(i3+1),by omega,i3+1,(od++[clD d]),?a31_sd,?a31_nx,by omega,rfl,?i31_0,?i31_1,?st31⟩;case st31=>(simp only [F49,seval,ay,clD,cn,List.length_append,List.length_cons,List.length_nil,au,hlt0,hI3,hat3];first|rfl|(simp [ay,clD,cn,List.length_append,List.length_cons,List.length_nil,hlt0,hI3,hat3,Nat.add_mul];done))
   case i31_0=>(simpa using hL3)
   all_goals (first|omega|assumption|(simp;omega)|(simp_all;done))
  ·repeat refine ob ?_
   refine ⟨_,(Js hdd.1),(by first|rfl|simp [bu,aI,av,az,A1.cells,aU,ab cA,cS]),?_⟩;try simp only [aq,F49,seval,au,hlt0,hI3,hat3,cn,cS,(id SW),and_true,and_self,false_and]
   repeat refine ob ?_
   refine ⟨?_,?_⟩
   ·repeat refine ob ?_
    refine ao 294 297 (od.length*4+3) (by rfl) (by rfl) (by rw [List.getElem?_append_right (by rw [aS dT];omega),aS dT,Nat.add_sub_cancel_left];rfl) (by decide) (by show (2:Nat)≠0;decide) (by show (4:Nat)≠0;decide) rfl ?_;have hst9:∀a b c x y:C,(ar cn od++[a,b,c,x]).set (od.length*4+3) y=ar cn od++[a,b,c,y]:=fun a b c x y=>by rw [List.set_append_right _ _ (by rw [aS dT];omega),aS dT,Nat.add_sub_cancel_left];rfl
    simp only [F49,seval,hst9];refine awN ?_;simp only [F49,seval,au,hlt0,hI3,hat3];repeat refine ob ?_
    repeat refine ob ?_
    refine ⟨_,bE (orT 103 38 ps H) [1,2,3,10] [201,202,203,272,297] (onG hbH (fun x h=>by simp only [aj];repeat rw [if_neg (by omega)]) _),g.debts.length-(i3+1),by omega,i3+1,(od++[clD d]),?a33_sd,?a33_nx,by omega,rfl,?i33_0,?i33_1,?st33⟩;case st33=>(simp only [F49,seval,ay,clD,cn,List.length_append,List.length_cons,List.length_nil,au,hlt0,hI3,hat3];first|rfl|(simp [ay,clD,cn,List.length_append,List.length_cons,List.length_nil,hlt0,hI3,hat3,Nat.add_mul];done))
    case i33_0=>(simpa using hL3)
    all_goals (first|omega|assumption|(simp;omega)|(simp_all;done))
   repeat refine ob ?_
   refine ⟨?_,?_⟩
   ·repeat refine ob ?_
    refine ao 294 297 (od.length*4+3) (by rfl) (by rfl) (by rw [List.getElem?_append_right (by rw [aS dT];omega),aS dT,Nat.add_sub_cancel_left];rfl) (by decide) (by show (2:Nat)≠0;decide) (by show (4:Nat)≠0;decide) rfl ?_;have hst9:∀a b c x y:C,(ar cn od++[a,b,c,x]).set (od.length*4+3) y=ar cn od++[a,b,c,y]:=fun a b c x y=>by rw [List.set_append_right _ _ (by rw [aS dT];omega),aS dT,Nat.add_sub_cancel_left];rfl
    simp only [F49,seval,hst9];refine awN ?_;simp only [F49,seval,au,hlt0,hI3,hat3];repeat refine ob ?_
    repeat refine ob ?_
    refine ⟨_,bE (orT 103 38 ps H) [1,2,3,10] [201,202,203,272,297] (onG hbH (fun x h=>by simp only [aj];repeat rw [if_neg (by omega)]) _),g.debts.length-(i3+1),by omega,i3+1,(od++[clD d]),?a35_sd,?a35_nx,by omega,rfl,?i35_0,?i35_1,?st35⟩;case st35=>(simp only [F49,seval,ay,clD,cn,List.length_append,List.length_cons,List.length_nil,au,hlt0,hI3,hat3];first|rfl|(simp [ay,clD,cn,List.length_append,List.length_cons,List.length_nil,hlt0,hI3,hat3,Nat.add_mul];done))
    case i35_0=>(simpa using hL3)
    all_goals (first|omega|assumption|(simp;omega)|(simp_all;done))
   repeat refine ob ?_
   refine ao 294 297 (od.length*4+3) (by rfl) (by rfl) (by rw [List.getElem?_append_right (by rw [aS dT];omega),aS dT,Nat.add_sub_cancel_left];rfl) (by decide) (by show (2:Nat)≠0;decide) (by show (4:Nat)≠0;decide) rfl ?_;have hst9:∀a b c x y:C,(ar cn od++[a,b,c,x]).set (od.length*4+3) y=ar cn od++[a,b,c,y]:=fun a b c x y=>by rw [List.set_append_right _ _ (by rw [aS dT];omega),aS dT,Nat.add_sub_cancel_left];rfl
   simp only [F49,seval,hst9];refine awN ?_;simp only [F49,seval,au,hlt0,hI3,hat3];repeat refine ob ?_
   repeat refine ob ?_
   refine ⟨_,bE (orT 103 38 ps H) [1,2,3,10] [201,202,203,272,297] (onG hbH (fun x h=>by simp only [aj];repeat rw [if_neg (by omega)]) _),g.debts.length-(i3+1),by omega,i3+1,(od++[clD d]),?a37_sd,?a37_nx,by omega,rfl,?i37_0,?i37_1,?st37⟩;case st37=>(simp only [F49,seval,ay,clD,cn,List.length_append,List.length_cons,List.length_nil,au,hlt0,hI3,hat3];first|rfl|(simp [ay,clD,cn,List.length_append,List.length_cons,List.length_nil,hlt0,hI3,hat3,Nat.add_mul];done))
   case i37_0=>(simpa using hL3)
   all_goals (first|omega|assumption|(simp;omega)|(simp_all;done))
  repeat refine ob ?_
  refine ⟨?_,?_⟩
  ·repeat refine ob ?_
   refine ⟨_,(Js hdd.1),(by first|rfl|simp [bu,aI,av,az,A1.cells,aU,ab cA,cS]),?_⟩;try simp only [aq,F49,seval,au,hlt0,hI3,hat3,cn,cS,(id SW),and_true,and_self,false_and]
   repeat refine ob ?_
   refine ao 294 297 (od.length*4+3) (by rfl) (by rfl) (by rw [List.getElem?_append_right (by rw [aS dT];omega),aS dT,Nat.add_sub_cancel_left];rfl) (by decide) (by show (2:Nat)≠0;decide) (by show (4:Nat)≠0;decide) rfl ?_;have hst9:∀a b c x y:C,(ar cn od++[a,b,c,x]).set (od.length*4+3) y=ar cn od++[a,b,c,y]:=fun a b c x y=>by rw [List.set_append_right _ _ (by rw [aS dT];omega),aS dT,Nat.add_sub_cancel_left];rfl
   simp only [F49,seval,hst9];refine awN ?_;simp only [F49,seval,au,hlt0,hI3,hat3];repeat refine ob ?_
   repeat refine ob ?_
   refine ⟨_,bE (orT 103 38 ps H) [1,2,3,10] [201,202,203,272,297] (onG hbH (fun x h=>by simp only [aj];repeat rw [if_neg (by omega)]) _),g.debts.length-(i3+1),by omega,i3+1,(od++[clD d]),?a39_sd,?a39_nx,by omega,rfl,?i39_0,?i39_1,?st39⟩;case st39=>(simp only [F49,seval,ay,clD,cn,List.length_append,List.length_cons,List.length_nil,au,hlt0,hI3,hat3];first|rfl|(simp [ay,clD,cn,List.length_append,List.length_cons,List.length_nil,hlt0,hI3,hat3,Nat.add_mul];done))
   case i39_0=>(simpa using hL3)
   all_goals (first|omega|assumption|(simp;omega)|(simp_all;done))
  repeat refine ob ?_
  refine ⟨_,(Js hdd.1),(by first|rfl|simp [bu,aI,av,az,A1.cells,aU,ab cA,cS]),?_⟩;try simp only [aq,F49,seval,au,hlt0,hI3,hat3,cn,cS,(id SW),and_true,and_self,false_and]
  repeat refine ob ?_
  refine ⟨?_,?_⟩
  ·repeat refine ob ?_
   refine ao 294 297 (od.length*4+3) (by rfl) (by rfl) (by rw [List.getElem?_append_right (by rw [aS dT];omega),aS dT,Nat.add_sub_cancel_left];rfl) (by decide) (by show (2:Nat)≠0;decide) (by show (4:Nat)≠0;decide) rfl ?_;have hst9:∀a b c x y:C,(ar cn od++[a,b,c,x]).set (od.length*4+3) y=ar cn od++[a,b,c,y]:=fun a b c x y=>by rw [List.set_append_right _ _ (by rw [aS dT];omega),aS dT,Nat.add_sub_cancel_left];rfl
   simp only [F49,seval,hst9];refine awN ?_;simp only [F49,seval,au,hlt0,hI3,hat3];repeat refine ob ?_
   repeat refine ob ?_
   refine ⟨_,bE (orT 103 38 ps H) [1,2,3,10] [201,202,203,272,297] (onG hbH (fun x h=>by simp only [aj];repeat rw [if_neg (by omega)]) _),g.debts.length-(i3+1),by omega,i3+1,(od++[clD d]),?a41_sd,?a41_nx,by omega,rfl,?i41_0,?i41_1,?st41⟩;case st41=>(simp only [F49,seval,ay,clD,cn,List.length_append,List.length_cons,List.length_nil,au,hlt0,hI3,hat3];first|rfl|(simp [ay,clD,cn,List.length_append,List.length_cons,List.length_nil,hlt0,hI3,hat3,Nat.add_mul];done))
   case i41_0=>(simpa using hL3)
   all_goals (first|omega|assumption|(simp;omega)|(simp_all;done))
  repeat refine ob ?_
  refine ao 294 297 (od.length*4+3) (by rfl) (by rfl) (by rw [List.getElem?_append_right (by rw [aS dT];omega),aS dT,Nat.add_sub_cancel_left];rfl) (by decide) (by show (2:Nat)≠0;decide) (by show (4:Nat)≠0;decide) rfl ?_;have hst9:∀a b c x y:C,(ar cn od++[a,b,c,x]).set (od.length*4+3) y=ar cn od++[a,b,c,y]:=fun a b c x y=>by rw [List.set_append_right _ _ (by rw [aS dT];omega),aS dT,Nat.add_sub_cancel_left];rfl
  simp only [F49,seval,hst9];refine awN ?_;simp only [F49,seval,au,hlt0,hI3,hat3];repeat refine ob ?_
  repeat refine ob ?_
  refine ⟨_,bE (orT 103 38 ps H) [1,2,3,10] [201,202,203,272,297] (onG hbH (fun x h=>by simp only [aj];repeat rw [if_neg (by omega)]) _),g.debts.length-(i3+1),by omega,i3+1,(od++[clD d]),?a43_sd,?a43_nx,by omega,rfl,?i43_0,?i43_1,?st43⟩;case st43=>(simp only [F49,seval,ay,clD,cn,List.length_append,List.length_cons,List.length_nil,au,hlt0,hI3,hat3];first|rfl|(simp [ay,clD,cn,List.length_append,List.length_cons,List.length_nil,hlt0,hI3,hat3,Nat.add_mul];done))
  case i43_0=>(simpa using hL3)
  all_goals (first|omega|assumption|(simp;omega)|(simp_all;done))
 obtain rfl:i3=g.debts.length:=by omega
 have hI3:¬(g.debts.length:Int)<(g.debts.length:Int):=by omega
 rw [List.drop_length] at hL3;simp only [List.map_cons,List.map_nil,List.append_nil] at hL3;subst hL3;refine awN ?_;simp only [F49,seval,au,hlt0,hI3,au];repeat refine ob ?_
 refine awF ?_;refine awQ ?_;simp only [F49,seval];refine ao 297 203 1 (by rfl) (by rfl) (by rfl) (by decide) (by show (4:Nat)≠0;decide) (by show (2:Nat)≠0;decide) rfl ?_;simp only [F49,seval];refine awN ?_;simp only [F49,seval,au,hlt0,hI3];repeat refine ob ?_
 refine aE (orT 103 38 ps H) [2] [272,202] (onG hbH (fun x h=>by simp only [aj];repeat rw [if_neg (by omega)]) _) ?_;simp only [F49,seval];refine awX ?_;simp only [F49,seval];exact ⟨ps,s,_,hps,rfl,rfl⟩
end Go.Proofs.YtcgpghifhehlhaaGreatDoor
section
/- Demands merged: sums by key, what two ways of merging come to. No program in sight. -/
namespace Go.Proofs.YtcgpghifhehlhaaGreatDoor
structure Dem where
 deb:Int
 par:Int
 gnd:Int
 cts:Int
deriving DecidableEq,Inhabited
def klt (a b:Dem):Prop:=a.deb<b.deb∨(a.deb=b.deb/\(a.par<b.par∨(a.par=b.par/\a.gnd<b.gnd)))
def keq (a b:Dem):Prop:=a.deb=b.deb/\a.par=b.par/\a.gnd=b.gnd
instance (a b:Dem):Decidable (klt a b):=by unfold klt;infer_instance
instance (a b:Dem):Decidable (keq a b):=by unfold keq;infer_instance
end Go.Proofs.YtcgpghifhehlhaaGreatDoor
end
namespace Go.Proofs.YtcgpghifhehlhaaGreatDoor
open Go Go.RowKit Go.Proofs.Tryz
theorem Bp : (prog.fieldsOf 32).toList = [⟨"Neg", 4, 0, false, "", "", 0⟩, ⟨"Num", 9, 1, false, "", "", 8⟩, ⟨"Den", 9, 2, false, "", "", 24⟩] := by kernel_rfl
theorem Cw:ldT prog 4=some (false,1):=by kernel_rfl
theorem Bq:ldT prog 9=some (false,1):=by kernel_rfl
theorem CS:ldT prog 32=some (true,3):=by kernel_rfl
theorem BI (cs:Array Value) (i:Nat) (v:Value) (h:cs[i]? =some v) (w:World):(part 4 cs i).run prog w= .ok v w:=by
 simp [part,(Fs Cw w).1,h]
theorem AZ (cs:Array Value) (i:Nat) (v:Value) (h:cs[i]? =some v) (w:World):(part 9 cs i).run prog w= .ok v w:=by
 simp [part,(Fs Bq w).1,h]
theorem Cx (cs:Array Value) (i:Nat) (a b c:Value) (h:cs.extract i (i+3)= #[a,b,c]) (h2:i+3<=cs.size) (w:World):(part 32 cs i).run prog w= .ok (.agg #[a,b,c]) w:=by
 simp [part,(jk CS w).1,h]
theorem DV (x:Bool) (y z:ByteArray) (d:Nat) (w:World):(Op.equalIn (d+2) 32 (.agg #[.bool x,.string y,.string z]) (.agg #[.bool x,.string y,.string z])).run prog w= .ok true w:=by
 have h2:=run_equalIn_agg (P:=prog) w (d+1) 32 #[.bool x,.string y,.string z] #[.bool x,.string y,.string z] (by kernel_rfl) (by kernel_rfl);have hb:=fun (a b:Bool)=>run_equalIn_bool' (P:=prog) w d 4 a b (by kernel_rfl)
 have hs:=fun (a b:ByteArray)=>run_equalIn_string (P:=prog) w d 9 a b (by kernel_rfl)
 have p0:=BI #[.bool x,.string y,.string z] 0 _ rfl w;have p1:=AZ #[.bool x,.string y,.string z] 1 _ rfl w;have p2:=AZ #[.bool x,.string y,.string z] 2 _ rfl w;rw [h2,Bp];have n1 : ¬ "Neg" = "_" := by decide
 have n2 : ¬ "Num" = "_" := by decide
 have n3 : ¬ "Den" = "_" := by decide
 simp only [Op.eqFields,ne_eq,n1,n2,n3,not_false_eq_true,if_true,Sem.run_bind,p0,Result.andThen_ok];simp [hb,hs,p1,p2]
theorem KS (a:GRat):zg prog 32 [.bool a.neg,.string a.num,.string a.den] [.bool a.neg,.string a.num,.string a.den]:=fun w=>⟨by
 have h:=DV a.neg a.num a.den 9998 w;have h3:(Op.equal 32 (.agg #[.bool a.neg,.string a.num,.string a.den]) (.agg #[.bool a.neg,.string a.num,.string a.den])).run prog w=(Op.equalIn (9998+2) 32 (.agg #[.bool a.neg,.string a.num,.string a.den]) (.agg #[.bool a.neg,.string a.num,.string a.den])).run prog w:=rfl;show (Op.equal 32 (.agg #[.bool a.neg,.string a.num,.string a.den]) (.agg #[.bool a.neg,.string a.num,.string a.den])).run prog w=_;rw [h3,h];simp [oc,eqV],by kernel_rfl⟩
theorem KT (a:GRat):oc [.bool a.neg,.string a.num,.string a.den] [.bool a.neg,.string a.num,.string a.den]=true:=by simp [oc,eqV]
theorem Ki : (prog.fieldsOf 38).toList = [⟨"Holder", 3, 0, false, "", "", 0⟩, ⟨"Rank", 3, 1, false, "", "", 8⟩, ⟨"Amount", 32, 2, false, "", "", 16⟩] := by kernel_rfl
theorem K2 (a:GClaim):zg prog 38 [.int .i64 a.holder,.int .i64 a.rank,.bool a.amount.neg,.string a.amount.num,.string a.amount.den] [.int .i64 a.holder,.int .i64 a.rank,.bool a.amount.neg,.string a.amount.num,.string a.amount.den]:=fun w=>⟨by
 have h2:=run_equalIn_agg (P:=prog) w 9999 38 #[.int .i64 a.holder,.int .i64 a.rank,.bool a.amount.neg,.string a.amount.num,.string a.amount.den] #[.int .i64 a.holder,.int .i64 a.rank,.bool a.amount.neg,.string a.amount.num,.string a.amount.den] (by kernel_rfl) (by kernel_rfl);have h3:(Op.equal 38 (.agg #[.int .i64 a.holder,.int .i64 a.rank,.bool a.amount.neg,.string a.amount.num,.string a.amount.den]) (.agg #[.int .i64 a.holder,.int .i64 a.rank,.bool a.amount.neg,.string a.amount.num,.string a.amount.den])).run prog w=(Op.equalIn (9999+1) 38 (.agg #[.int .i64 a.holder,.int .i64 a.rank,.bool a.amount.neg,.string a.amount.num,.string a.amount.den]) (.agg #[.int .i64 a.holder,.int .i64 a.rank,.bool a.amount.neg,.string a.amount.num,.string a.amount.den])).run prog w:=rfl;have hi:=fun (x y:Int)=>run_equalIn_int (P:=prog) w 9998 3 .i64 .i64 x y (by kernel_rfl)
 have hb:=fun (a b:Bool)=>run_equalIn_bool' (P:=prog) w 9998 4 a b (by kernel_rfl)
 have hr:=DV a.amount.neg a.amount.num a.amount.den 9997 w;have p0:=pq #[.int .i64 a.holder,.int .i64 a.rank,.bool a.amount.neg,.string a.amount.num,.string a.amount.den] 0 _ rfl w;have p1:=pq #[.int .i64 a.holder,.int .i64 a.rank,.bool a.amount.neg,.string a.amount.num,.string a.amount.den] 1 _ rfl w;have p2:=Cx #[.int .i64 a.holder,.int .i64 a.rank,.bool a.amount.neg,.string a.amount.num,.string a.amount.den] 2 (.bool a.amount.neg) (.string a.amount.num) (.string a.amount.den) (by rfl) (by simp) w;show (Op.equal 38 (.agg #[.int .i64 a.holder,.int .i64 a.rank,.bool a.amount.neg,.string a.amount.num,.string a.amount.den]) (.agg #[.int .i64 a.holder,.int .i64 a.rank,.bool a.amount.neg,.string a.amount.num,.string a.amount.den])).run prog w=_;rw [h3,h2,Ki];have n0 : ¬ "Holder" = "_" := by decide
 have n1 : ¬ "Rank" = "_" := by decide
 have n2 : ¬ "Amount" = "_" := by decide
 simp only [Op.eqFields,ne_eq,n0,n1,n2,not_false_eq_true,if_true,Sem.run_bind,p0,Result.andThen_ok];simp [hi,hr,p1,p2,oc,eqV],by kernel_rfl⟩
theorem K3 (a:GClaim):oc [.int .i64 a.holder,.int .i64 a.rank,.bool a.amount.neg,.string a.amount.num,.string a.amount.den] [.int .i64 a.holder,.int .i64 a.rank,.bool a.amount.neg,.string a.amount.num,.string a.amount.den]=true:=by simp [oc,eqV]
theorem Kw : (prog.fieldsOf 46).toList = [⟨"Claim", 3, 0, false, "", "", 0⟩, ⟨"Capped", 4, 1, false, "", "", 8⟩, ⟨"Cap", 32, 2, false, "", "", 16⟩] := by kernel_rfl
theorem Lp (a:GPart):zg prog 46 [.int .i64 a.claim,.bool a.capped,.bool a.cap.neg,.string a.cap.num,.string a.cap.den] [.int .i64 a.claim,.bool a.capped,.bool a.cap.neg,.string a.cap.num,.string a.cap.den]:=fun w=>⟨by
 have h2:=run_equalIn_agg (P:=prog) w 9999 46 #[.int .i64 a.claim,.bool a.capped,.bool a.cap.neg,.string a.cap.num,.string a.cap.den] #[.int .i64 a.claim,.bool a.capped,.bool a.cap.neg,.string a.cap.num,.string a.cap.den] (by kernel_rfl) (by kernel_rfl);have h3:(Op.equal 46 (.agg #[.int .i64 a.claim,.bool a.capped,.bool a.cap.neg,.string a.cap.num,.string a.cap.den]) (.agg #[.int .i64 a.claim,.bool a.capped,.bool a.cap.neg,.string a.cap.num,.string a.cap.den])).run prog w=(Op.equalIn (9999+1) 46 (.agg #[.int .i64 a.claim,.bool a.capped,.bool a.cap.neg,.string a.cap.num,.string a.cap.den]) (.agg #[.int .i64 a.claim,.bool a.capped,.bool a.cap.neg,.string a.cap.num,.string a.cap.den])).run prog w:=rfl;have hi:=fun (x y:Int)=>run_equalIn_int (P:=prog) w 9998 3 .i64 .i64 x y (by kernel_rfl)
 have hb:=fun (a b:Bool)=>run_equalIn_bool' (P:=prog) w 9998 4 a b (by kernel_rfl)
 have hr:=DV a.cap.neg a.cap.num a.cap.den 9997 w;have p0:=pq #[.int .i64 a.claim,.bool a.capped,.bool a.cap.neg,.string a.cap.num,.string a.cap.den] 0 _ rfl w;have p1:=BI #[.int .i64 a.claim,.bool a.capped,.bool a.cap.neg,.string a.cap.num,.string a.cap.den] 1 _ rfl w;have p2:=Cx #[.int .i64 a.claim,.bool a.capped,.bool a.cap.neg,.string a.cap.num,.string a.cap.den] 2 (.bool a.cap.neg) (.string a.cap.num) (.string a.cap.den) (by rfl) (by simp) w;show (Op.equal 46 (.agg #[.int .i64 a.claim,.bool a.capped,.bool a.cap.neg,.string a.cap.num,.string a.cap.den]) (.agg #[.int .i64 a.claim,.bool a.capped,.bool a.cap.neg,.string a.cap.num,.string a.cap.den])).run prog w=_;rw [h3,h2,Kw];have n0 : ¬ "Claim" = "_" := by decide
 have n1 : ¬ "Capped" = "_" := by decide
 have n2 : ¬ "Cap" = "_" := by decide
 simp only [Op.eqFields,ne_eq,n0,n1,n2,not_false_eq_true,if_true,Sem.run_bind,p0,Result.andThen_ok];simp [hi,hb,hr,p1,p2,oc,eqV],by kernel_rfl⟩
theorem Lq (a:GPart):oc [.int .i64 a.claim,.bool a.capped,.bool a.cap.neg,.string a.cap.num,.string a.cap.den] [.int .i64 a.claim,.bool a.capped,.bool a.cap.neg,.string a.cap.num,.string a.cap.den]=true:=by simp [oc,eqV]
end Go.Proofs.YtcgpghifhehlhaaGreatDoor
namespace Go.Proofs.YtcgpghifhehlhaaGreatDoor
open Go Go.RowKit Go.ChangeShapes Go.WideShapes Go.ChangeAt Go.Proofs.Tryz
theorem j3:fD prog 5 (rC (fun n:Nat=>[.lit (.int .u8 n)]) (·<256)):=by
 intro H enc W fuel cs x h;obtain ⟨n,rfl,hn⟩:=vj underlying5 H enc W fuel cs x h;exact ⟨n,⟨⟨rfl,rfl⟩,trivial⟩,hn⟩
theorem dP:fD prog 68 (rC vB (·<65536)):=by
 intro H enc W fuel cs x h;obtain ⟨n,rfl,hn⟩:=tE underlying68 H enc W fuel cs x h;exact ⟨n,⟨⟨rfl,rfl⟩,trivial⟩,hn⟩
end Go.Proofs.YtcgpghifhehlhaaGreatDoor
namespace Go.Proofs.YtcgpghifhehlhaaGreatDoor
open Go Go.RowKit Go.Proofs.Tryz
abbrev WP:=Int×Rat
abbrev WT:=List WP
structure WR where
 cl:List Rat
 rv:Rat
def WR.add (R:WR) (c:Int) (a:Rat):WR:=if c= -1 then ⟨R.cl,R.rv+a⟩ else ⟨R.cl.set c.toNat (R.cl.getD c.toNat 0+a),R.rv⟩
def WR.B (n:Nat) (R:WR):Prop:=(∀x∈R.cl,qB n x)/\qB n R.rv
theorem WR.B.mono {m n:Nat} {R:WR} (h:R.B m) (hm:m<=n):R.B n:=⟨fun x hx=>(h.1 x hx).mono hm,h.2.mono hm⟩
theorem WR.B.pos {n:Nat} {R:WR} (h:R.B n):0<n:=h.2.pos
theorem qB.inv {n:Nat} {q:Rat} (h:qB n q):qB n q⁻¹:=by
 have hp:=h.pos;by_cases h0:q=0
 ·subst h0;rw [Rat.inv_zero];exact h
 have h1:q⁻¹=mkRat (sg (bU q) q.den) q.num.natAbs:=by
  have h2:=B7 (p:=1) h0;rw [Rat.div_def,Rat.one_mul] at h2;rw [h2];have e1:bU 1=false:=by unfold bU;simp
  rw [e1];simp
 rw [h1];refine lj ?_ h.1 hp;rw [fo];exact h.2
theorem qB.div {m n:Nat} {p q:Rat} (hp:qB m p) (hq:qB n q):qB (m+n) (p/q):=by
 rw [Rat.div_def];exact hp.mul hq.inv
abbrev Ek:=List Int×List WT
structure WL where
 count:Nat
 ranks:List WT
 pools:List Ek
 total:Rat
end Go.Proofs.YtcgpghifhehlhaaGreatDoor
