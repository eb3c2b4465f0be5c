/- Copies of groups with clean numbers, options put into claims: the reference's side; walked by the abstract machine. -/
import Derived.Test.YtokmkopihhnggaaGreatDoorCg1M
import Derived.Test.YtokmkopihhnggaaGreatDoorAbWM
set_option linter.unusedVariables false
set_option maxHeartbeats 4000000
set_option maxRecDepth 100000
set_option linter.unusedSimpArgs false
set_option linter.defProp false
namespace Go.Proofs.YtokmkopihhnggaaGreatDoor
open Go Go.RowKit Go.Proofs.Tryz
theorem pz {r:GRat} (h:cqR r):aR prog 116 [.agg (ai r)] (.val (.agg (ai (clR r)))):=I9 r (Nat.le_trans h.1 (by decide)) (Nat.le_trans h.2 (by decide))
def F80:=And.intro zS (And.intro tf1 (And.intro tf6 (And.intro tf2 (And.intro tf0 (And.intro tf8 (And.intro ic (And.intro KB (And.intro tf3 (And.intro Gg (And.intro AU (And.intro pr (And.intro Hz (And.intro Gh (tf5))))))))))))))
theorem F81:type_of%F80:=F80
theorem Lk (a:bR) (ha:a.length<=1000000/\∀t∈a,t.length<=1000000/\∀p∈t,cqR p.cap):aR prog 117 [.agg (bu a)] (.val (.agg (bu (clA a)))):=by
 have hn1:=ha.1;refine aP func117 rfl (by decide) (N:=48) rfl (by simp) (R:=[.cell 2 50]) rfl fun en k0=>?_
 refine awN ?_;simp only [F81,seval,bu];repeat refine ob ?_
 refine awN ?_;simp only [F81,seval,bu];repeat refine ob ?_
 refine awN ?_;simp only [F81,seval,bu];repeat refine ob ?_
 refine lX 3 0 45 _ 47 1 (by decide) (by rfl) (by decide) (by simp) (by rfl) ?_;refine aQ [1,2,3,4] [1,2,3,45] ?_;try simp only [ak,F81,seval,bu,a7,clT,bD,List.length_append,List.length_cons,List.length_nil,List.length_map]
 repeat' first|apply awS|apply awB
 refine aM (fun n st=>∃i2 ot s6 nx,i2<=a.length/\n=a.length-i2/\ot++List.map clT (a.drop i2)=[]++List.map clT a/\ot.length=i2/\st=⟨mkT [(1,.val (.one (.ptr 1 0 0))),(2,.val (.one (.ptr 2 1 0))),(3,.val (.one (.ptr 3 2 0))),(4,one (.int .i64 i2))],mkH [(1,⟨0,50,1,1,bu a⟩),(2,⟨1,50,1,1,[.lit (.slice none 0 0)]⟩),(3,⟨2,50,1,1,[.own 45 s6 ot.length 1]⟩),(45,⟨s6,47,1,ot.length,aA bD ot⟩)],nx,0⟩) (a.length) ⟨0,[],_,_,by omega,by omega,by rfl,(by first|omega|assumption|rfl|simp|(simp;omega)),rfl⟩ ?_;rintro n0 st ⟨i2,ot,s6,nx0,hk0,rfl,hL0,hV0_1,rfl⟩;by_cases hlt0:i2<a.length
 ·skip;have hI0:(i2:Int)<(a.length:Int):=by omega
  have hat0:=aO eA a i2 hlt0;try rw [Nat.mul_one] at hat0
  rw [List.drop_eq_getElem_cons hlt0] at hL0;have hct:=ha.2 _ (List.getElem_mem hlt0);have hn4:=hct.1;generalize a[i2]=t at *
  simp only [List.map_cons,List.map_nil,List.append_nil] at hL0;refine awN ?_;simp only [F81,seval,bu,hI0,hat0];repeat refine ob ?_
  refine awT ?_;refine awK ?_;simp only [F81,seval];refine awN ?_;simp only [F81,seval,bu,hI0,hat0];repeat refine ob ?_
  refine awN ?_;simp only [F81,seval,bu,hI0,hat0];repeat refine ob ?_
  refine gS 5 40 46 5 (by decide) (by rfl) ?_;refine aQ [1,2,3,4,5,6] [1,2,3,45,40] ?_;try simp only [ak,F81,seval,bu,hI0,hat0,a7,clP,bT,List.length_append,List.length_cons,List.length_nil]
  repeat' first|apply awS|apply awB
  refine aM (fun n st=>∃i3 op sp nx,i3<=t.length/\n=t.length-i3/\op++List.map clP (t.drop i3)=[]++List.map clP t/\op.length=i3/\st=⟨mkT [(1,.val (.one (.ptr 1 0 0))),(2,.val (.one (.ptr 2 1 0))),(3,.val (.one (.ptr 3 2 0))),(4,one (.int .i64 i2)),(5,.val (.one (.own 40 sp op.length 5))),(6,one (.int .i64 i3))],mkH [(1,⟨0,50,1,1,bu a⟩),(2,⟨1,50,1,1,[.lit (.slice none 0 0)]⟩),(3,⟨2,50,1,1,[.own 45 s6 ot.length 1]⟩),(45,⟨s6,47,1,ot.length,aA bD ot⟩),(40,⟨sp,46,5,op.length,aA bT op⟩)],nx,0⟩) (t.length) ⟨0,[],_,_,by omega,by omega,by rfl,(by first|omega|assumption|rfl|simp|(simp;omega)),rfl⟩ ?_;rintro n1 st ⟨i3,op,sp,nx1,hk1,rfl,hL1,hV1_1,rfl⟩;by_cases hlt1:i3<t.length
  ·skip;have hI1:(i3:Int)<(t.length:Int):=by omega
   have hat1:=aO eX t i3 hlt1;try rw [Nat.mul_one] at hat1
   rw [List.drop_eq_getElem_cons hlt1] at hL1;have hpc:=hct.2 _ (List.getElem_mem hlt1);generalize t[i3]=p at *
   simp only [List.map_cons,List.map_nil,List.append_nil] at hL1;refine awN ?_;simp only [F81,seval,bu,hI0,hat0,hI1,hat1,hat0,bD];repeat refine ob ?_
   refine awT ?_;refine awK ?_;simp only [F81,seval];refine awN ?_;simp only [F81,seval,bu,hI0,hat0,hI1,hat1,hat0,bD,hat1,bT];repeat refine ob ?_
   refine awN ?_;simp only [F81,seval,bu,hI0,hat0,hI1,hat1,bT,ai];repeat refine ob ?_
   refine ⟨_,(pz hpc),rfl,?_⟩;try simp only [ak,F81,seval,bu,hI0,hat0,hI1,hat1,bT,ai]
   repeat refine ob ?_
   refine awN ?_;simp only [F81,seval,bu,hI0,hat0,hI1,hat1];repeat refine ob ?_
   refine awN ?_;simp only [F81,seval,bu,hI0,hat0,hI1,hat1];repeat refine ob ?_
   repeat refine ob ?_
   refine ⟨_,aI [1,2,3,4,5,6] [1,2,3,45,40],t.length-(i3+1),by omega,i3+1,(op++[clP p]),?a11_sp,?a11_nx,by omega,rfl,?i11_0,?i11_1,?st11⟩;case st11=>(simp only [F81,seval,a7,clP,bT,List.length_append,List.length_cons,List.length_nil,bu,hI0,hat0,hI1,hat1];first|rfl|(simp [a7,clP,bT,List.length_append,List.length_cons,List.length_nil,hI0,hat0,hI1,hat1,Nat.add_mul];done))
   case i11_0=>(simpa using hL1)
   all_goals (first|omega|assumption|(simp;omega)|(simp_all;done))
  skip;obtain rfl:i3=t.length:=by omega
  have hI1:¬(t.length:Int)<(t.length:Int):=by omega
  rw [List.drop_length] at hL1;simp only [List.map_cons,List.map_nil,List.append_nil] at hL1;subst hL1;refine awN ?_;simp only [F81,seval,bu,hI0,hat0,hI1,hat0,bD];repeat refine ob ?_
  refine awF ?_;refine awQ ?_;simp only [F81,seval];refine gT (t:=5) (by rfl) (by rfl) (by decide) (by rfl) ?_;simp only [F81,seval];refine awN ?_;simp only [F81,seval,bu,hI0,hat0,hI1];repeat refine ob ?_
  refine awN ?_;simp only [F81,seval,bu,hI0,hat0,hI1];repeat refine ob ?_
  repeat refine ob ?_
  refine ⟨_,aI [1,2,3,4] [1,2,3,45],a.length-(i2+1),by omega,i2+1,(ot++[clT t]),?a15_s6,?a15_nx,by omega,rfl,?i15_0,?i15_1,?st15⟩;case st15=>(simp only [F81,seval,a7,clT,bD,List.length_append,List.length_cons,List.length_nil,List.length_map,bu,hI0,hat0,hI1];first|rfl|(simp [a7,clT,bD,List.length_append,List.length_cons,List.length_nil,List.length_map,hI0,hat0,hI1,Nat.add_mul];done))
  case i15_0=>(simpa using hL0)
  all_goals (first|omega|assumption|(simp;omega)|(simp_all;done))
 skip;obtain rfl:i2=a.length:=by omega
 have hI0:¬(a.length:Int)<(a.length:Int):=by omega
 rw [List.drop_length] at hL0;simp only [List.map_cons,List.map_nil,List.append_nil] at hL0;subst hL0;refine awN ?_;simp only [F81,seval,bu,hI0];repeat refine ob ?_
 refine awF ?_;refine awQ ?_;simp only [F81,seval];refine dp 45 3 0 (by rfl) (by rfl) (by rfl) (by decide) (by show (1:Nat)≠0;decide) (by show (1:Nat)≠0;decide) rfl ?_;simp only [F81,seval];refine awN ?_;simp only [F81,seval,bu,hI0];repeat refine ob ?_
 refine awX ?_;simp only [F81,seval];simp [clA,bu,al,ax,ab bF]
def F82:=And.intro zS (And.intro IY (And.intro Gc (And.intro pt (And.intro Gd (And.intro IZ (And.intro Ep (And.intro ll (And.intro CF (And.intro Er (And.intro dN (And.intro vh (And.intro Ge (And.intro I0 (And.intro tu (And.intro Ht (And.intro BK (And.intro AY (And.intro Gf (And.intro tv (And.intro Gj (And.intro mN (And.intro pq (And.intro Gg (And.intro Eu (And.intro nX (And.intro CH (And.intro tw (And.intro pr (And.intro Gm (And.intro Ib (And.intro Gh (And.intro I1 (And.intro AZ (And.intro Ev (And.intro Fl (CG))))))))))))))))))))))))))))))))))))
theorem F83:type_of%F82:=F82
theorem MR (g:GGrp) (hg:cqG g) (H:Hp) (ny:Nat) (hbH:∀y B,H y=some B->y<200):cT prog 66 [.agg (am g)] H ny
  (fun res H' _=>∃ps s t,ps.map (·.1)=g.ests.map clE/\res= .val (.agg [.own 272 s g.ests.length 5,.sh 4 (g.debts.map clD).length (aA fu (g.debts.map clD))])/\H'=bZ (orT 103 38 ps H) [(272,⟨s,36,5,g.ests.length,eRw (gm 103) ps 0⟩),(202,⟨t,28,2,1,[.own 272 s g.ests.length 5,.sh 4 (g.debts.map clD).length (aA fu (g.debts.map clD))]⟩)]):=by
 have hn1:=hg.1;have hn2:=hg.2.2.1;refine cF 200 func66 rfl (by decide) (N:=100) rfl (by simp) (Rl:=[.cell 2 28]) rfl fun en k0=>?_
 refine awN ?_;simp only [F83,seval,am];repeat refine ob ?_
 refine awN ?_;simp only [F83,seval,am];repeat refine ob ?_
 refine awN ?_;simp only [F83,seval,am];repeat refine ob ?_
 refine lX 203 0 272 _ 36 5 (by decide) (by rfl) (by decide) (by simp) (by rfl) ?_;refine eC H [1,2,3,4] [201,202,203,272] (by intro y B h;right;have h9:=hbH y B h;simp only [aB];(repeat rw [if_neg (by omega)]);exact h) ?_;try simp only [ak,F83,seval,am]
 repeat' first|apply awS|apply awB
 refine aM (fun n st=>∃k ps s nx,k<=g.ests.length/\n=g.ests.length-k/\ps.map (·.1)=(g.ests.take k).map clE/\st=⟨mkT [(1,.val (.one (.ptr 201 ny 0))),(2,.val (.one (.ptr 202 (ny+1) 0))),(3,.val (.one (.ptr 203 (ny+2) 0))),(4,one (.int .i64 k))],bZ (orT 103 38 ps H) [(201,⟨ny,28,2,1,am g⟩),(202,⟨ny+1,28,2,1,[.lit (.slice none 0 0),.lit (.slice none 0 0)]⟩),(203,⟨ny+2,28,2,1,[.own 272 s k 5,.lit (.slice none 0 0)]⟩),(272,⟨s,36,5,k,eRw (gm 103) ps 0⟩)],nx,200⟩) (g.ests.length) ⟨0,[],_,_,by omega,by omega,by simp,by rw [Ln];rfl⟩ ?_;rintro n0 st ⟨k,ps,s,nx0,hk,rfl,hps,rfl⟩;by_cases hlt0:(k:Int)<(g.ests.length:Int)
 ·refine awN ?_;simp only [F83,seval,am,hlt0,am];repeat refine ob ?_
  refine awT ?_;refine awK ?_;simp only [F83,seval];have hkl:k<g.ests.length:=by omega
  have hat:=aO i4 g.ests k hkl;obtain ⟨e,hXe⟩:∃e,g.ests[k]=e:=⟨_,rfl⟩;have hce:cqE e:=hXe▸hg.2.1 _ (List.getElem_mem hkl);have hn3:=hce.2.1;have hn4:=hce.2.2.2.1;rw [hXe] at hat;have hpl:ps.length=k:=by have:=congrArg List.length hps;simp at this;omega
  have hrl:=pn (gm 103) ps 0;refine awN ?_;simp only [F83,seval,am,hlt0,am,hat,aJ];repeat refine ob ?_
  refine awN ?_;simp only [F83,seval,am,hlt0,aJ,ai];repeat refine ob ?_
  refine ⟨_,(pz hce.1),(by first|rfl|simp [aU,aD,al,ax,A1.cells,bu,ab bF,ai]),?_⟩;try simp only [ak,F83,seval,am,hlt0,aJ,ai]
  repeat refine ob ?_
  refine awN ?_;simp only [F83,seval,am,hlt0];repeat refine ob ?_
  refine lX 206 3 248 _ 38 5 (by decide) (by rfl) (by decide) (by simp) (by rfl) ?_;refine eC (orT 103 38 ps H) [1,2,3,4,5,6,7] [201,202,203,272,205,206,248] (onG hbH (fun x h=>by simp only [aB];repeat rw [if_neg (by omega)]) _) ?_;try simp only [ak,F83,seval,am,hlt0,a7,clC,b0,List.length_append,List.length_cons,List.length_nil]
  repeat' first|apply awS|apply awB
  refine aM (fun n st=>∃i1 out sc nx,i1<=e.claims.length/\n=e.claims.length-i1/\out++List.map clC (e.claims.drop i1)=[]++List.map clC e.claims/\out.length=i1/\st=⟨mkT [(1,.val (.one (.ptr 201 ny 0))),(2,.val (.one (.ptr 202 (ny+1) 0))),(3,.val (.one (.ptr 203 (ny+2) 0))),(4,one (.int .i64 k)),(5,.val (.one (.ptr 205 (nx0+0) 0))),(6,.val (.one (.ptr 206 (nx0+1) 0))),(7,one (.int .i64 i1))],bZ (orT 103 38 ps H) [(201,⟨ny,28,2,1,am g⟩),(202,⟨ny+1,28,2,1,[.lit (.slice none 0 0),.lit (.slice none 0 0)]⟩),(203,⟨ny+2,28,2,1,[.own 272 s k 5,.lit (.slice none 0 0)]⟩),(272,⟨s,36,5,k,eRw (gm 103) ps 0⟩),(205,⟨nx0+0,36,5,1,aJ e⟩),(206,⟨nx0+1,36,5,1,[.lit (.bool (clR e.cash).neg),.lit (.string (clR e.cash).num),.lit (.string (clR e.cash).den),.own 248 sc out.length 5,.lit (.slice none 0 0)]⟩),(248,⟨sc,38,5,out.length,aA b0 out⟩)],nx,200⟩) (e.claims.length) ⟨0,[],_,_,by omega,by omega,by rfl,(by first|omega|assumption|rfl|simp|(simp;omega)),rfl⟩ ?_;rintro n1 st ⟨i1,out,sc,nx1,hk1,rfl,hL1,hV1_1,rfl⟩;by_cases hlt1:i1<e.claims.length
  ·have hI1:(i1:Int)<(e.claims.length:Int):=by omega
   have hat1:=aO cK e.claims i1 hlt1;try rw [Nat.mul_one] at hat1
   rw [List.drop_eq_getElem_cons hlt1] at hL1;have hcc:=hce.2.2.1 _ (List.getElem_mem hlt1);generalize e.claims[i1]=c at *
   simp only [List.map_cons,List.map_nil,List.append_nil] at hL1;refine awN ?_;simp only [F83,seval,am,hlt0,hI1,hat1,aJ];repeat refine ob ?_
   refine awT ?_;refine awK ?_;simp only [F83,seval];refine awN ?_;simp only [F83,seval,am,hlt0,hI1,hat1,aJ,hat1,b0];repeat refine ob ?_
   refine awN ?_;simp only [F83,seval,am,hlt0,hI1,hat1,b0,ai];repeat refine ob ?_
   refine ⟨_,(pz hcc),(by first|rfl|simp [aU,aD,al,ax,A1.cells,bu,ab bF,ai]),?_⟩;try simp only [ak,F83,seval,am,hlt0,hI1,hat1,b0,ai]
   repeat refine ob ?_
   refine awN ?_;simp only [F83,seval,am,hlt0,hI1,hat1];repeat refine ob ?_
   refine awN ?_;simp only [F83,seval,am,hlt0,hI1,hat1];repeat refine ob ?_
   repeat refine ob ?_
   refine ⟨_,fP (orT 103 38 ps H) [1,2,3,4,5,6,7] [201,202,203,272,205,206,248] (onG hbH (fun x h=>by simp only [aB];repeat rw [if_neg (by omega)]) _),e.claims.length-(i1+1),by omega,i1+1,(out++[clC c]),?a12_sc,?a12_nx,by omega,rfl,?i12_0,?i12_1,?st12⟩;case st12=>(simp only [F83,seval,a7,clC,b0,List.length_append,List.length_cons,List.length_nil,am,hlt0,hI1,hat1];first|rfl|(simp [a7,clC,b0,List.length_append,List.length_cons,List.length_nil,hlt0,hI1,hat1,Nat.add_mul];done))
   case i12_0=>(simpa using hL1)
   all_goals (first|omega|assumption|(simp;omega)|(simp_all;done))
  obtain rfl:i1=e.claims.length:=by omega
  have hI1:¬(e.claims.length:Int)<(e.claims.length:Int):=by omega
  rw [List.drop_length] at hL1;simp only [List.map_cons,List.map_nil,List.append_nil] at hL1;have hol:=hV1_1;subst hL1;refine awN ?_;simp only [F83,seval,am,hlt0,hI1,aJ];repeat refine ob ?_
  refine awF ?_;refine awQ ?_;simp only [F83,seval];refine awN ?_;simp only [F83,seval,am,hlt0,hI1];repeat refine ob ?_
  refine lX 206 4 266 _ 50 1 (by decide) (by rfl) (by decide) (by simp) (by rfl) ?_;refine eC (orT 103 38 ps H) [1,2,3,4,5,6,9] [201,202,203,272,205,206,248,266] (onG hbH (fun x h=>by simp only [aB];repeat rw [if_neg (by omega)]) _) ?_;try simp only [ak,F83,seval,am,hlt0,hI1,a7,bu,List.length_append,List.length_cons,List.length_nil,List.length_map]
  repeat' first|apply awS|apply awB
  refine aM (fun n st=>∃i2 oa sa nx,i2<=e.agrs.length/\n=e.agrs.length-i2/\oa++List.map clA (e.agrs.drop i2)=[]++List.map clA e.agrs/\oa.length=i2/\st=⟨mkT [(1,.val (.one (.ptr 201 ny 0))),(2,.val (.one (.ptr 202 (ny+1) 0))),(3,.val (.one (.ptr 203 (ny+2) 0))),(4,one (.int .i64 k)),(5,.val (.one (.ptr 205 (nx0+0) 0))),(6,.val (.one (.ptr 206 (nx0+1) 0))),(9,one (.int .i64 i2))],bZ (orT 103 38 ps H) [(201,⟨ny,28,2,1,am g⟩),(202,⟨ny+1,28,2,1,[.lit (.slice none 0 0),.lit (.slice none 0 0)]⟩),(203,⟨ny+2,28,2,1,[.own 272 s k 5,.lit (.slice none 0 0)]⟩),(272,⟨s,36,5,k,eRw (gm 103) ps 0⟩),(205,⟨nx0+0,36,5,1,aJ e⟩),(206,⟨nx0+1,36,5,1,[.lit (.bool (clR e.cash).neg),.lit (.string (clR e.cash).num),.lit (.string (clR e.cash).den),.own 248 sc e.claims.length 5,.own 266 sa oa.length 1]⟩),(248,⟨sc,38,5,e.claims.length,aA b0 (e.claims.map clC)⟩),(266,⟨sa,50,1,oa.length,aA bu oa⟩)],nx,200⟩) (e.agrs.length) ⟨0,[],_,_,by omega,by omega,by rfl,(by first|omega|assumption|rfl|simp|(simp;omega)),rfl⟩ ?_;rintro n2 st ⟨i2,oa,sa,nx2,hk2,rfl,hL2,hV2_1,rfl⟩;by_cases hlt2:i2<e.agrs.length
  ·have hI2:(i2:Int)<(e.agrs.length:Int):=by omega
   have hat2:=aO gI e.agrs i2 hlt2;try rw [Nat.mul_one] at hat2
   rw [List.drop_eq_getElem_cons hlt2] at hL2;have hca:=hce.2.2.2.2 _ (List.getElem_mem hlt2);generalize e.agrs[i2]=a at *
   simp only [List.map_cons,List.map_nil,List.append_nil] at hL2;refine awN ?_;simp only [F83,seval,am,hlt0,hI1,hI2,hat2,aJ];repeat refine ob ?_
   refine awT ?_;refine awK ?_;simp only [F83,seval];refine awD (scT 0 7 (scq [14,16,18,21,22] .nil)) [0,0,0,0,0,0,0,0,0,0,0,0] ?_;simp only [F83,seval,am,hlt0,hI1,hI2,hat2,aJ,hat2,ab au,ab bF,bu];repeat refine ob ?_
   refine ⟨_,(Lk a hca),(by first|rfl|simp [aU,aD,al,ax,A1.cells,bu,ab bF,ai]),?_⟩;try simp only [ak,F83,seval,am,hlt0,hI1,hI2,hat2,aJ,hat2,ab au,ab bF,bu]
   repeat refine ob ?_
   refine awN ?_;simp only [F83,seval,am,hlt0,hI1,hI2,hat2];repeat refine ob ?_
   repeat refine ob ?_
   refine ⟨_,fP (orT 103 38 ps H) [1,2,3,4,5,6,9] [201,202,203,272,205,206,248,266] (onG hbH (fun x h=>by simp only [aB];repeat rw [if_neg (by omega)]) _),e.agrs.length-(i2+1),by omega,i2+1,(oa++[clA a]),?a18_sa,?a18_nx,by omega,rfl,?i18_0,?i18_1,?st18⟩;case st18=>(simp only [F83,seval,a7,bu,List.length_append,List.length_cons,List.length_nil,List.length_map,am,hlt0,hI1,hI2,hat2];first|rfl|(simp [a7,bu,List.length_append,List.length_cons,List.length_nil,List.length_map,hlt0,hI1,hI2,hat2,Nat.add_mul];done))
   case i18_0=>(simpa using hL2)
   all_goals (first|omega|assumption|(simp;omega)|(simp_all;done))
  obtain rfl:i2=e.agrs.length:=by omega
  have hI2:¬(e.agrs.length:Int)<(e.agrs.length:Int):=by omega
  rw [List.drop_length] at hL2;simp only [List.map_cons,List.map_nil,List.append_nil] at hL2;subst hL2;refine awN ?_;simp only [F83,seval,am,hlt0,hI1,hI2,aJ];repeat refine ob ?_
  refine awF ?_;refine awQ ?_;simp only [F83,seval];refine dp 266 206 4 (by rfl) (by rfl) (by rfl) (by decide) (by show (1:Nat)≠0;decide) (by show (5:Nat)≠0;decide) rfl ?_;simp only [F83,seval];refine awN ?_;simp only [F83,seval,am,hlt0,hI1,hI2,hrl,hpl];repeat refine ob ?_
  refine EQ 248 (1000*(k+1)+103) 272 (k*5+3) (by rfl) (by rfl) (by rw [←hpl];exact JX ps _ _ _ _ _) (by decide) (by omega) (by show (5:Nat)≠0;decide) (by show (5:Nat)≠0;decide) rfl ?_;have hsn:=fun z x=>JW ps (clE e,z) x
  rw [hpl] at hsn;simp only [clE,List.length_map] at hsn;refine awN ?_;simp only [F83,seval,am,hlt0,hI1,hI2];repeat refine ob ?_
  refine ⟨_,fP (orT 103 38 (ps++[(clE e,?zz23)]) H) [1,2,3,4] [201,202,203,272] ?pf23,g.ests.length-(k+1),by omega,k+1,ps++[(clE e,?zz23)],?ss23,?na23,by omega,rfl,?mp23,?st23⟩;case st23=>
   simp only [F83,seval,List.length_map];rw [hsn];try rfl
  case mp23=>rw [List.map_append,hps,List.take_succ_eq_append_getElem hkl,hXe,List.map_append];rfl
  case pf23=>
   intro y B h;right;rcases wN h with ⟨a,r,rfl,h2,rfl⟩|h8
   ·by_cases ha:a=k
    ·subst ha;rw [List.getElem?_append_right (by omega),hpl,Nat.sub_self] at h2;obtain rfl:=Option.some.inj h2;simp only [aB];rw [if_neg (by omega)];first|rw [if_pos rfl]|rw [if_pos trivial]
     simp [clE]
    have hak:a<k:=by have:=(List.getElem?_eq_some_iff.1 h2).1;simp at this;omega
    rw [List.getElem?_append_left (by omega)] at h2;simp only [aB];repeat rw [if_neg (by omega)]
    exact JK (by decide) h2
   have h9:=hbH y B h8;simp only [aB];repeat rw [if_neg (by omega)]
   rw [Ke (by omega)];exact h8
 refine awN ?_;simp only [F83,seval,am,hlt0,am];repeat refine ob ?_
 refine awF ?_;refine awQ ?_;simp only [F83,seval];refine awN ?_;simp only [F83,seval,am,hlt0];repeat refine ob ?_
 obtain rfl:k=g.ests.length:=by omega
 rw [List.take_length] at hps;refine lX 203 1 297 _ 42 4 (by decide) (by rfl) (by decide) (by simp) (by rfl) ?_;refine eC (orT 103 38 ps H) [1,2,3,10] [201,202,203,272,297] (onG hbH (fun x h=>by simp only [aB];repeat rw [if_neg (by omega)]) _) ?_;try simp only [ak,F83,seval,am,hlt0,a7,clD,fu,List.length_append,List.length_cons,List.length_nil]
 repeat' first|apply awS|apply awB
 refine aM (fun n st=>∃i3 od sd nx,i3<=g.debts.length/\n=g.debts.length-i3/\od++List.map clD (g.debts.drop i3)=[]++List.map clD g.debts/\od.length=i3/\st=⟨mkT [(1,.val (.one (.ptr 201 ny 0))),(2,.val (.one (.ptr 202 (ny+1) 0))),(3,.val (.one (.ptr 203 (ny+2) 0))),(10,one (.int .i64 i3))],bZ (orT 103 38 ps H) [(201,⟨ny,28,2,1,am g⟩),(202,⟨ny+1,28,2,1,[.lit (.slice none 0 0),.lit (.slice none 0 0)]⟩),(203,⟨ny+2,28,2,1,[.own 272 s g.ests.length 5,.own 297 sd od.length 4]⟩),(272,⟨s,36,5,g.ests.length,eRw (gm 103) ps 0⟩),(297,⟨sd,42,4,od.length,aA fu od⟩)],nx,200⟩) (g.debts.length) ⟨0,[],_,_,by omega,by omega,by rfl,(by first|omega|assumption|rfl|simp|(simp;omega)),rfl⟩ ?_;rintro n3 st ⟨i3,od,sd,nx3,hk3,rfl,hL3,hV3_1,rfl⟩;by_cases hlt3:i3<g.debts.length
 ·have hI3:(i3:Int)<(g.debts.length:Int):=by omega
  have hat3:=aO gb g.debts i3 hlt3;try rw [Nat.mul_one] at hat3
  rw [List.drop_eq_getElem_cons hlt3] at hL3;have hdd:=hg.2.2.2 _ (List.getElem_mem hlt3);generalize g.debts[i3]=d at *
  simp only [List.map_cons,List.map_nil,List.append_nil] at hL3;refine awN ?_;simp only [F83,seval,am,hlt0,hI3,hat3,am];repeat refine ob ?_
  refine awT ?_;refine awK ?_;simp only [F83,seval];refine awN ?_;simp only [F83,seval,am,hlt0,hI3,hat3,am,hat3,fu];repeat refine ob ?_
  repeat' first|apply awS|apply awB
  refine Lj [] (by kernel_rfl) (.take 0 (.take 2 (.take 3 (.take 6 (.take 7 (.alt 1 (.alt 4 (.alt 5 (.alt 8 (.take 9 (.alt 10 (.alt 11 (.take 12 (.alt 13 .nil .none)) .none) .none)) .none) .none) (.alt 5 (.alt 4 (.alt 8 (.take 9 (.alt 10 (.alt 11 (.take 12 (.alt 13 .nil .none)) .none) .none)) .none) .none) .none)) (.alt 4 (.alt 1 (.alt 5 (.alt 8 (.take 9 (.alt 10 (.alt 11 (.take 12 (.alt 13 .nil .none)) .none) .none)) .none) .none) (.alt 5 (.alt 1 (.alt 8 (.take 9 (.alt 10 (.alt 11 (.take 12 (.alt 13 .nil .none)) .none) .none)) .none) (.alt 8 (.take 1 (.take 9 (.alt 10 (.alt 11 (.take 12 (.alt 13 .nil .none)) .none) .none))) .none)) .none)) (.alt 5 (.alt 1 (.alt 4 (.alt 8 (.take 9 (.alt 10 (.alt 11 (.take 12 (.alt 13 .nil .none)) .none) .none)) .none) .none) (.alt 4 (.alt 1 (.alt 8 (.take 9 (.alt 10 (.alt 11 (.take 12 (.alt 13 .nil .none)) .none) .none)) .none) (.alt 8 (.take 1 (.take 9 (.alt 10 (.alt 11 (.take 12 (.alt 13 .nil .none)) .none) .none))) .none)) .none)) .none)))))))) (by kernel_rfl) (gs:=[none,none,none,none,none,none,none,none,none,none,none,none,none,none]) (by kernel_rfl) (by simp only [(id SS),(id SW),seval,reduceIte,ne_eq];rfl) (by decide) ?_;simp only [F83,seval,am,hlt0,hI3,hat3,fu,ai,(id SW),and_true,and_self,false_and];repeat refine ob ?_
  refine ⟨?_,?_,?_⟩
  ·repeat refine ob ?_
   refine ⟨?_,?_⟩
   ·repeat refine ob ?_
    refine ⟨_,(pz hdd.1),(by first|rfl|simp [aU,aD,al,ax,A1.cells,bu,ab bF,ai]),?_⟩;try simp only [ak,F83,seval,am,hlt0,hI3,hat3,fu,ai,(id SW),and_true,and_self,false_and]
    repeat refine ob ?_
    refine dp 294 297 (od.length*4+3) (by rfl) (by rfl) (by rw [List.getElem?_append_right (by rw [bo gb];omega),bo gb,Nat.add_sub_cancel_left];rfl) (by decide) (by show (2:Nat)≠0;decide) (by show (4:Nat)≠0;decide) rfl ?_;have hst9:∀a b c x y:C,(aA fu od++[a,b,c,x]).set (od.length*4+3) y=aA fu od++[a,b,c,y]:=fun a b c x y=>by rw [List.set_append_right _ _ (by rw [bo gb];omega),bo gb,Nat.add_sub_cancel_left];rfl
    simp only [F83,seval,hst9];refine awN ?_;simp only [F83,seval,am,hlt0,hI3,hat3];repeat refine ob ?_
    repeat refine ob ?_
    refine ⟨_,fP (orT 103 38 ps H) [1,2,3,10] [201,202,203,272,297] (onG hbH (fun x h=>by simp only [aB];repeat rw [if_neg (by omega)]) _),g.debts.length-(i3+1),by omega,i3+1,(od++[clD d]),?a29_sd,?a29_nx,by omega,rfl,?i29_0,?i29_1,?st29⟩;case st29=>(simp only [F83,seval,a7,clD,fu,List.length_append,List.length_cons,List.length_nil,am,hlt0,hI3,hat3];first|rfl|(simp [a7,clD,fu,List.length_append,List.length_cons,List.length_nil,hlt0,hI3,hat3,Nat.add_mul];done))
    case i29_0=>(simpa using hL3)
    all_goals (first|omega|assumption|(simp;omega)|(simp_all;done))
   repeat refine ob ?_
   refine ⟨_,(pz hdd.1),(by first|rfl|simp [aU,aD,al,ax,A1.cells,bu,ab bF,ai]),?_⟩;try simp only [ak,F83,seval,am,hlt0,hI3,hat3,fu,ai,(id SW),and_true,and_self,false_and]
   repeat refine ob ?_
   refine dp 294 297 (od.length*4+3) (by rfl) (by rfl) (by rw [List.getElem?_append_right (by rw [bo gb];omega),bo gb,Nat.add_sub_cancel_left];rfl) (by decide) (by show (2:Nat)≠0;decide) (by show (4:Nat)≠0;decide) rfl ?_;have hst9:∀a b c x y:C,(aA fu od++[a,b,c,x]).set (od.length*4+3) y=aA fu od++[a,b,c,y]:=fun a b c x y=>by rw [List.set_append_right _ _ (by rw [bo gb];omega),bo gb,Nat.add_sub_cancel_left];rfl
   simp only [F83,seval,hst9];refine awN ?_;simp only [F83,seval,am,hlt0,hI3,hat3];repeat refine ob ?_
   repeat refine ob ?_
   refine ⟨_,fP (orT 103 38 ps H) [1,2,3,10] [201,202,203,272,297] (onG hbH (fun x h=>by simp only [aB];repeat rw [if_neg (by omega)]) _),g.debts.length-(i3+1),by omega,i3+1,(od++[clD d]),?a31_sd,?a31_nx,by omega,rfl,?i31_0,?i31_1,?st31⟩;case st31=>(simp only [F83,seval,a7,clD,fu,List.length_append,List.length_cons,List.length_nil,am,hlt0,hI3,hat3];first|rfl|(simp [a7,clD,fu,List.length_append,List.length_cons,List.length_nil,hlt0,hI3,hat3,Nat.add_mul];done))
   case i31_0=>(simpa using hL3)
   all_goals (first|omega|assumption|(simp;omega)|(simp_all;done))
  ·repeat refine ob ?_
   refine ⟨_,(pz hdd.1),(by first|rfl|simp [aU,aD,al,ax,A1.cells,bu,ab bF,ai]),?_⟩;try simp only [ak,F83,seval,am,hlt0,hI3,hat3,fu,ai,(id SW),and_true,and_self,false_and]
   repeat refine ob ?_
   refine ⟨?_,?_⟩
   ·repeat refine ob ?_
    refine dp 294 297 (od.length*4+3) (by rfl) (by rfl) (by rw [List.getElem?_append_right (by rw [bo gb];omega),bo gb,Nat.add_sub_cancel_left];rfl) (by decide) (by show (2:Nat)≠0;decide) (by show (4:Nat)≠0;decide) rfl ?_;have hst9:∀a b c x y:C,(aA fu od++[a,b,c,x]).set (od.length*4+3) y=aA fu od++[a,b,c,y]:=fun a b c x y=>by rw [List.set_append_right _ _ (by rw [bo gb];omega),bo gb,Nat.add_sub_cancel_left];rfl
    simp only [F83,seval,hst9];refine awN ?_;simp only [F83,seval,am,hlt0,hI3,hat3];repeat refine ob ?_
    repeat refine ob ?_
    refine ⟨_,fP (orT 103 38 ps H) [1,2,3,10] [201,202,203,272,297] (onG hbH (fun x h=>by simp only [aB];repeat rw [if_neg (by omega)]) _),g.debts.length-(i3+1),by omega,i3+1,(od++[clD d]),?a33_sd,?a33_nx,by omega,rfl,?i33_0,?i33_1,?st33⟩;case st33=>(simp only [F83,seval,a7,clD,fu,List.length_append,List.length_cons,List.length_nil,am,hlt0,hI3,hat3];first|rfl|(simp [a7,clD,fu,List.length_append,List.length_cons,List.length_nil,hlt0,hI3,hat3,Nat.add_mul];done))
    case i33_0=>(simpa using hL3)
    all_goals (first|omega|assumption|(simp;omega)|(simp_all;done))
   repeat refine ob ?_
   refine ⟨?_,?_⟩
   ·repeat refine ob ?_
    refine dp 294 297 (od.length*4+3) (by rfl) (by rfl) (by rw [List.getElem?_append_right (by rw [bo gb];omega),bo gb,Nat.add_sub_cancel_left];rfl) (by decide) (by show (2:Nat)≠0;decide) (by show (4:Nat)≠0;decide) rfl ?_;have hst9:∀a b c x y:C,(aA fu od++[a,b,c,x]).set (od.length*4+3) y=aA fu od++[a,b,c,y]:=fun a b c x y=>by rw [List.set_append_right _ _ (by rw [bo gb];omega),bo gb,Nat.add_sub_cancel_left];rfl
    simp only [F83,seval,hst9];refine awN ?_;simp only [F83,seval,am,hlt0,hI3,hat3];repeat refine ob ?_
    repeat refine ob ?_
    refine ⟨_,fP (orT 103 38 ps H) [1,2,3,10] [201,202,203,272,297] (onG hbH (fun x h=>by simp only [aB];repeat rw [if_neg (by omega)]) _),g.debts.length-(i3+1),by omega,i3+1,(od++[clD d]),?a35_sd,?a35_nx,by omega,rfl,?i35_0,?i35_1,?st35⟩;case st35=>(simp only [F83,seval,a7,clD,fu,List.length_append,List.length_cons,List.length_nil,am,hlt0,hI3,hat3];first|rfl|(simp [a7,clD,fu,List.length_append,List.length_cons,List.length_nil,hlt0,hI3,hat3,Nat.add_mul];done))
    case i35_0=>(simpa using hL3)
    all_goals (first|omega|assumption|(simp;omega)|(simp_all;done))
   repeat refine ob ?_
   refine dp 294 297 (od.length*4+3) (by rfl) (by rfl) (by rw [List.getElem?_append_right (by rw [bo gb];omega),bo gb,Nat.add_sub_cancel_left];rfl) (by decide) (by show (2:Nat)≠0;decide) (by show (4:Nat)≠0;decide) rfl ?_;have hst9:∀a b c x y:C,(aA fu od++[a,b,c,x]).set (od.length*4+3) y=aA fu od++[a,b,c,y]:=fun a b c x y=>by rw [List.set_append_right _ _ (by rw [bo gb];omega),bo gb,Nat.add_sub_cancel_left];rfl
   simp only [F83,seval,hst9];refine awN ?_;simp only [F83,seval,am,hlt0,hI3,hat3];repeat refine ob ?_
   repeat refine ob ?_
   refine ⟨_,fP (orT 103 38 ps H) [1,2,3,10] [201,202,203,272,297] (onG hbH (fun x h=>by simp only [aB];repeat rw [if_neg (by omega)]) _),g.debts.length-(i3+1),by omega,i3+1,(od++[clD d]),?a37_sd,?a37_nx,by omega,rfl,?i37_0,?i37_1,?st37⟩;case st37=>(simp only [F83,seval,a7,clD,fu,List.length_append,List.length_cons,List.length_nil,am,hlt0,hI3,hat3];first|rfl|(simp [a7,clD,fu,List.length_append,List.length_cons,List.length_nil,hlt0,hI3,hat3,Nat.add_mul];done))
   case i37_0=>(simpa using hL3)
   all_goals (first|omega|assumption|(simp;omega)|(simp_all;done))
  repeat refine ob ?_
  refine ⟨?_,?_⟩
  ·repeat refine ob ?_
   refine ⟨_,(pz hdd.1),(by first|rfl|simp [aU,aD,al,ax,A1.cells,bu,ab bF,ai]),?_⟩;try simp only [ak,F83,seval,am,hlt0,hI3,hat3,fu,ai,(id SW),and_true,and_self,false_and]
   repeat refine ob ?_
   refine dp 294 297 (od.length*4+3) (by rfl) (by rfl) (by rw [List.getElem?_append_right (by rw [bo gb];omega),bo gb,Nat.add_sub_cancel_left];rfl) (by decide) (by show (2:Nat)≠0;decide) (by show (4:Nat)≠0;decide) rfl ?_;have hst9:∀a b c x y:C,(aA fu od++[a,b,c,x]).set (od.length*4+3) y=aA fu od++[a,b,c,y]:=fun a b c x y=>by rw [List.set_append_right _ _ (by rw [bo gb];omega),bo gb,Nat.add_sub_cancel_left];rfl
   simp only [F83,seval,hst9];refine awN ?_;simp only [F83,seval,am,hlt0,hI3,hat3];repeat refine ob ?_
   repeat refine ob ?_
   refine ⟨_,fP (orT 103 38 ps H) [1,2,3,10] [201,202,203,272,297] (onG hbH (fun x h=>by simp only [aB];repeat rw [if_neg (by omega)]) _),g.debts.length-(i3+1),by omega,i3+1,(od++[clD d]),?a39_sd,?a39_nx,by omega,rfl,?i39_0,?i39_1,?st39⟩;case st39=>(simp only [F83,seval,a7,clD,fu,List.length_append,List.length_cons,List.length_nil,am,hlt0,hI3,hat3];first|rfl|(simp [a7,clD,fu,List.length_append,List.length_cons,List.length_nil,hlt0,hI3,hat3,Nat.add_mul];done))
   case i39_0=>(simpa using hL3)
   all_goals (first|omega|assumption|(simp;omega)|(simp_all;done))
  repeat refine ob ?_
  refine ⟨_,(pz hdd.1),(by first|rfl|simp [aU,aD,al,ax,A1.cells,bu,ab bF,ai]),?_⟩;try simp only [ak,F83,seval,am,hlt0,hI3,hat3,fu,ai,(id SW),and_true,and_self,false_and]
  repeat refine ob ?_
  refine ⟨?_,?_⟩
  ·repeat refine ob ?_
   refine dp 294 297 (od.length*4+3) (by rfl) (by rfl) (by rw [List.getElem?_append_right (by rw [bo gb];omega),bo gb,Nat.add_sub_cancel_left];rfl) (by decide) (by show (2:Nat)≠0;decide) (by show (4:Nat)≠0;decide) rfl ?_;have hst9:∀a b c x y:C,(aA fu od++[a,b,c,x]).set (od.length*4+3) y=aA fu od++[a,b,c,y]:=fun a b c x y=>by rw [List.set_append_right _ _ (by rw [bo gb];omega),bo gb,Nat.add_sub_cancel_left];rfl
   simp only [F83,seval,hst9];refine awN ?_;simp only [F83,seval,am,hlt0,hI3,hat3];repeat refine ob ?_
   repeat refine ob ?_
   refine ⟨_,fP (orT 103 38 ps H) [1,2,3,10] [201,202,203,272,297] (onG hbH (fun x h=>by simp only [aB];repeat rw [if_neg (by omega)]) _),g.debts.length-(i3+1),by omega,i3+1,(od++[clD d]),?a41_sd,?a41_nx,by omega,rfl,?i41_0,?i41_1,?st41⟩;case st41=>(simp only [F83,seval,a7,clD,fu,List.length_append,List.length_cons,List.length_nil,am,hlt0,hI3,hat3];first|rfl|(simp [a7,clD,fu,List.length_append,List.length_cons,List.length_nil,hlt0,hI3,hat3,Nat.add_mul];done))
   case i41_0=>(simpa using hL3)
   all_goals (first|omega|assumption|(simp;omega)|(simp_all;done))
  repeat refine ob ?_
  refine dp 294 297 (od.length*4+3) (by rfl) (by rfl) (by rw [List.getElem?_append_right (by rw [bo gb];omega),bo gb,Nat.add_sub_cancel_left];rfl) (by decide) (by show (2:Nat)≠0;decide) (by show (4:Nat)≠0;decide) rfl ?_;have hst9:∀a b c x y:C,(aA fu od++[a,b,c,x]).set (od.length*4+3) y=aA fu od++[a,b,c,y]:=fun a b c x y=>by rw [List.set_append_right _ _ (by rw [bo gb];omega),bo gb,Nat.add_sub_cancel_left];rfl
  simp only [F83,seval,hst9];refine awN ?_;simp only [F83,seval,am,hlt0,hI3,hat3];repeat refine ob ?_
  repeat refine ob ?_
  refine ⟨_,fP (orT 103 38 ps H) [1,2,3,10] [201,202,203,272,297] (onG hbH (fun x h=>by simp only [aB];repeat rw [if_neg (by omega)]) _),g.debts.length-(i3+1),by omega,i3+1,(od++[clD d]),?a43_sd,?a43_nx,by omega,rfl,?i43_0,?i43_1,?st43⟩;case st43=>(simp only [F83,seval,a7,clD,fu,List.length_append,List.length_cons,List.length_nil,am,hlt0,hI3,hat3];first|rfl|(simp [a7,clD,fu,List.length_append,List.length_cons,List.length_nil,hlt0,hI3,hat3,Nat.add_mul];done))
  case i43_0=>(simpa using hL3)
  all_goals (first|omega|assumption|(simp;omega)|(simp_all;done))
 obtain rfl:i3=g.debts.length:=by omega
 have hI3:¬(g.debts.length:Int)<(g.debts.length:Int):=by omega
 rw [List.drop_length] at hL3;simp only [List.map_cons,List.map_nil,List.append_nil] at hL3;subst hL3;refine awN ?_;simp only [F83,seval,am,hlt0,hI3,am];repeat refine ob ?_
 refine awF ?_;refine awQ ?_;simp only [F83,seval];refine dp 297 203 1 (by rfl) (by rfl) (by rfl) (by decide) (by show (4:Nat)≠0;decide) (by show (2:Nat)≠0;decide) rfl ?_;simp only [F83,seval];refine awN ?_;simp only [F83,seval,am,hlt0,hI3];repeat refine ob ?_
 refine eC (orT 103 38 ps H) [2] [272,202] (onG hbH (fun x h=>by simp only [aB];repeat rw [if_neg (by omega)]) _) ?_;simp only [F83,seval];refine awX ?_;simp only [F83,seval];exact ⟨ps,s,_,hps,rfl,rfl⟩
def F84:=And.intro zS (And.intro Gc (And.intro Gd (And.intro Ep (And.intro CF (And.intro gH (And.intro dN (And.intro tu (And.intro BK (And.intro vg (And.intro Eq (And.intro Hw (And.intro Hx (And.intro tv (And.intro mN (And.intro pr (jz))))))))))))))))
theorem F85:type_of%F84:=F84
theorem N5 (ps:List (GEst×Nat)) (ds:List GDebt) (je kc:Int) (op:GOpt) (q:GEst×Nat) (n9 s pb sb:Nat) (H:Hp) (ny:Nat) (hpn:n9=ps.length) (hn9:n9<=1000000) (hop:cqR op.amount) (hj0:0<=je) (hq:ps[je.toNat]? =some q) (hk0:0<=kc) (hk1:kc.toNat<q.1.claims.length) (hcl:q.1.claims.length<=1000000) (hpb0:pb<1000)
  (hpb:H pb=some ⟨sb,28,2,1,[.own 272 s n9 5,.sh 4 ds.length (aA fu ds)]⟩) (h272:H 272=some ⟨s,36,5,n9,eRw (gm 103) ps 0⟩) (htab:∀j q,ps[j]? =some q->H (1000*(j+1)+103)=some ⟨q.2,38,5,q.1.claims.length,aA b0 q.1.claims⟩) (hbH:∀y B,H y=some B->y<2000∨y%1000=103):cT prog 67 [.one (.ptr pb sb 0),.agg (gp (je,kc)),.agg (jU op)] H ny
  (fun res H' _=>res= .tup []/\∀y B,up H (1000*(je.toNat+1)+103) (some ⟨q.2,38,5,q.1.claims.length,aA b0 (q.1.claims.set kc.toNat (opC (q.1.claims.getD kc.toNat default) op))⟩) y=some B->H' y=some B):=by
 obtain ⟨j,rfl⟩:∃j:Nat,je=(j:Int):=⟨je.toNat,by omega⟩;obtain ⟨k,rfl⟩:∃k:Nat,kc=(k:Int):=⟨kc.toNat,by omega⟩;simp only [Int.toNat_natCast] at hq hk1 ⊢;have hjl:j<ps.length:=(List.getElem?_eq_some_iff.1 hq).1;have hkl:k<q.1.claims.length:=by omega
 have hget:=Jn (gm 103) ps j q hq;have hfo:gm 103 j q= .own (1000*(j+1)+103) q.2 q.1.claims.length 5:=rfl;rw [hfo] at hget;have hrl:=pn (gm 103) ps 0;have htb:=htab j q hq;obtain ⟨b9,hb9⟩:∃b,b=1000*(j+1)+103:=⟨_,rfl⟩;rw [←hb9] at hget htb ⊢;have F9:∀c,c%1000≠103->((b9=c)=False/\(c=b9)=False):=fun c hc=>⟨by simp;omega,by simp;omega⟩
 have hfl:=bo cK q.1.claims;have h2:=LF q.1.claims k op hkl;have hsl:(spl (aA b0 q.1.claims) (k*5+2) (ai (clR op.amount))).length=q.1.claims.length*5:=by simp only [spl,List.length_append,List.length_take,List.length_drop,hfl];simp only [ai,List.length_cons,List.length_nil];omega
 simp only [ai] at h2 hsl;have F8:∀c,1000<=c->((pb=c)=False/\(c=pb)=False):=fun c hc=>⟨by simp;omega,by simp;omega⟩
 refine cF 2000 func67 rfl (by decide) (N:=30) rfl (by simp) (Rl:=[]) rfl fun en k0=>?_
 refine awN ?_;simp only [F85,seval,gp,jU];repeat refine ob ?_
 refine awD (scT 0 13 .nil) [0,0,0,0,0,0,0,0,0,0,0,0,0] ?_;simp only [F85,seval,gp,jU,hpb,F8,h272,hget,F9,htb,hrl,hpn];repeat refine ob ?_
 refine awN ?_;simp only [F85,seval,gp,jU,ai,F9,htb,hfl,hsl,h2];repeat refine ob ?_
 refine ⟨_,(pz hop),rfl,?_⟩;try simp only [ak,F85,seval,gp,jU,ai,F9,htb,hfl,hsl,h2]
 repeat refine ob ?_
 refine awN ?_;simp only [F85,seval,gp,jU,ai,F9,htb,hfl,hsl,h2];repeat refine ob ?_
 try refine ⟨rfl,?_⟩
 intro y B h;try simp only [aB] at h ⊢
 by_cases hy:y=b9
 ·rw [if_pos hy] at h ⊢;exact h
 rw [if_neg hy] at h;have h9:=hbH y B h;rw [if_neg hy];try rw [if_neg hy]
 repeat rw [if_neg (by omega)]
 exact h
end Go.Proofs.YtokmkopihhnggaaGreatDoor
