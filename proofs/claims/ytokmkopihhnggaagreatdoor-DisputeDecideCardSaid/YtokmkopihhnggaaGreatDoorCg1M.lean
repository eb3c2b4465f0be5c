/- Copies of groups with clean numbers, options put into claims: the program's side; walked by the abstract machine. -/
import Derived.Test.YtokmkopihhnggaaGreatDoorAbGM
import Derived.Test.YtokmkopihhnggaaGreatDoorCs4M
import Derived.Test.YtokmkopihhnggaaGreatDoorSplM
import Derived.Test.YtokmkopihhnggaaGreatDoorDi1M
set_option linter.unusedVariables false
set_option maxHeartbeats 4000000
set_option maxRecDepth 100000
set_option linter.unusedSimpArgs false
set_option linter.defProp false
namespace Go.Proofs.YtokmkopihhnggaaGreatDoor
open Go Go.RowKit Go.Proofs.Tryz
def cqR (r:GRat):Prop:=sB 100000000000 r
def cqE (e:GEst):Prop:=cqR e.cash/\e.claims.length<=1000000/\(∀c∈e.claims,cqR c.amount)/\e.agrs.length<=1000000/\∀a∈e.agrs,a.length<=1000000/\∀t∈a,t.length<=1000000/\∀p∈t,cqR p.cap
def cqG (g:GGrp):Prop:=g.ests.length<=1000000/\(∀e∈g.ests,cqE e)/\g.debts.length<=1000000/\∀d∈g.debts,cqR d.whole/\d.legs.length<=1000000
theorem JW (ps:List (GEst×Nat)) (q:GEst×Nat) (x:C):(eRw (gm 103) ps 0++[.lit (.bool q.1.cash.neg),.lit (.string q.1.cash.num),.lit (.string q.1.cash.den),x,.sh 1 q.1.agrs.length (aA bu q.1.agrs)]).set (ps.length*5+3) (.own (1000*(ps.length+1)+103) q.2 q.1.claims.length 5)=eRw (gm 103) (ps++[q]) 0:=by
 rw [Jh,List.set_append_right _ _ (by rw [pn];omega),pn,Nat.add_sub_cancel_left,Nat.zero_add];rfl
theorem JX (ps:List (GEst×Nat)) (a b c x y:C):(eRw (gm 103) ps 0++[a,b,c,x,y])[ps.length*5+3]? =some x:=by
 rw [List.getElem?_append_right (by rw [pn];omega),pn,Nat.add_sub_cancel_left];rfl
def F68:=And.intro zS (And.intro pr (And.intro Ic (Id)))
theorem F69:type_of%F68:=F68
theorem xC (r:GRat) (h:cqR r):aR prog 71 [.agg (ai r)] (.val (.agg (ai (clR r)))):=by
 have hA:aR prog 31 [.agg (ai r),.agg [.lit (.bool false),.lit (.string ay),.lit (.string ay)]] (.val (.agg (ai (clR r)))):=by
  have h1:=EG r gZ 100000000000 1 h ⟨by decide,by decide⟩ (by decide) (by decide) (by decide) (by decide);rw [mZ,Rat.add_zero] at h1;exact h1
 simp only [ai] at hA;refine aP func71 rfl (by decide) (N:=6) rfl (by simp) (R:=[.cell 2 32]) rfl fun en k0=>?_
 refine awN ?_;simp only [F69,seval,ai];repeat refine ob ?_
 refine awN ?_;simp only [F69,seval,ai];repeat refine ob ?_
 refine ⟨_,hA,rfl,?_⟩;try simp only [ak,F69,seval,ai]
 repeat refine ob ?_
 refine awX ?_;(first|(simp only [F69,seval,ai,ai];done)|(simp only [F69,seval,ai];first|(simp [ai];done)))
def F70:=And.intro zS (And.intro Er (CG))
theorem F71:type_of%F70:=F70
theorem KV (l:List Leg) (hl:l.length<=1000000):aR prog 113 [.one (.sh 2 l.length (aA gp l))] (.val (.one (.sh 2 l.length (aA gp l)))):=by
 refine aP func113 rfl (by decide) (N:=8) rfl (by simp) (R:=[.tmp 2]) rfl fun en k0=>?_
 refine awN ?_;simp only [F71,seval];repeat refine ob ?_
 repeat' first|apply awS|apply awB
 refine vW [] (gs:=[none,none]) (by rfl) (by kernel_rfl) (by decide) ?_;simp only [F71,seval,(id SF)];repeat refine ob ?_
 intro b hb;cases b
 ·repeat' first|apply awS|apply awB
  refine awF ?_;refine awK ?_;simp only [F71,seval];repeat' first|apply awS|apply awB
  refine vU [] (gs:=[none,none,none,none]) (by rfl) (by kernel_rfl) (by decide) ?_;simp only [F71,seval,bo gt,(id SD)];repeat refine ob ?_
  refine awX ?_;simp only [F71,seval,ab i5];try simp
 have h0:=hb rfl;obtain rfl:=List.eq_nil_of_length_eq_zero h0;refine awT ?_;refine awN ?_;simp only [F71,seval];repeat refine ob ?_
 refine gS 2 7 44 2 (by decide) (by rfl) ?_;refine awX ?_;simp only [F71,seval];simp [ve]
def F72:=And.intro zS (And.intro Hu (Ex))
theorem F73:type_of%F72:=F72
theorem KW (l:List GOpt) (hl:l.length<=1000000) (H:Hp) (ny:Nat) (hbH:∀y B,H y=some B->y<1000∨y%1000=103):cT prog 70 [.one (.sh 4 l.length (aA jU l))] H ny
  (fun res H' _=>∃s,res= .val (.one (.own 1007 s l.length 4))/\H'=bZ H [(1007,⟨s,121,4,l.length,aA jU l⟩)]):=by
 refine cF 1000 func70 rfl (by decide) (N:=8) rfl (by simp) (Rl:=[.tmp 2]) rfl fun en k0=>?_
 refine awN ?_;simp only [F73,seval];repeat refine ob ?_
 repeat' first|apply awS|apply awB
 refine vW [] (gs:=[none,none]) (by rfl) (by kernel_rfl) (by decide) ?_;simp only [F73,seval,(id SF)];repeat refine ob ?_
 intro b hb;cases b
 ·repeat' first|apply awS|apply awB
  refine awF ?_;refine awK ?_;simp only [F73,seval];repeat' first|apply awS|apply awB
  refine vU [] (gs:=[none,none,none,none]) (by rfl) (by kernel_rfl) (by decide) ?_;simp only [F73,seval,bo lf,(id SD)];repeat refine ob ?_
  refine eC H [2] [1007] (by intro y B h;right;have h9:=hbH y B h;simp only [aB];(repeat rw [if_neg (by omega)]);exact h) ?_;simp only [F73,seval];refine awX ?_;simp only [F73,seval];try simp
 have h0:=hb rfl;obtain rfl:=List.eq_nil_of_length_eq_zero h0;refine awT ?_;refine awN ?_;simp only [F73,seval];repeat refine ob ?_
 refine gS 2 1007 121 4 (by decide) (by rfl) ?_;refine eC H [2] [1007] (by intro y B h;right;have h9:=hbH y B h;simp only [aB];(repeat rw [if_neg (by omega)]);exact h) ?_;simp only [F73,seval];refine awX ?_;simp only [F73,seval];simp [ve]
def F74:=And.intro zS (And.intro tf1 (And.intro IY (And.intro Gc (And.intro tf6 (And.intro tf2 (And.intro IZ (And.intro Ep (And.intro tf0 (And.intro tf8 (And.intro dN (And.intro I0 (And.intro tu (And.intro Ht (And.intro ic (And.intro KB (And.intro Gf (And.intro tv (And.intro tf3 (And.intro Gg (And.intro Eu (And.intro CH (And.intro AU (And.intro pr (And.intro Ib (And.intro Hz (And.intro Gh (And.intro I1 (And.intro Ev (tf5)))))))))))))))))))))))))))))
theorem F75:type_of%F74:=F74
theorem Ka (e:GEst) (hce:cqE e) (H:Hp) (ny:Nat) (hbH:∀y B,H y=some B->y<2000∨y%1000=103):cT prog 112 [.agg (aJ e)] H ny
  (fun res H' _=>∃s t,res= .val (.agg [.lit (.bool (clR e.cash).neg),.lit (.string (clR e.cash).num),.lit (.string (clR e.cash).den),.own 2033 s e.claims.length 5,.sh 1 (e.agrs.map clA).length (aA bu (e.agrs.map clA))])/\H'=bZ H [(2033,⟨s,38,5,e.claims.length,aA b0 (e.claims.map clC)⟩),(2002,⟨t,36,5,1,[.lit (.bool (clR e.cash).neg),.lit (.string (clR e.cash).num),.lit (.string (clR e.cash).den),.own 2033 s e.claims.length 5,.sh 1 (e.agrs.map clA).length (aA bu (e.agrs.map clA))]⟩)]):=by
 have hn1:=hce.2.1;have hn2:=hce.2.2.2.1;refine cF 2000 func112 rfl (by decide) (N:=80) rfl (by simp) (Rl:=[.cell 2 36]) rfl fun en k0=>?_
 refine awN ?_;simp only [F75,seval,aJ];repeat refine ob ?_
 refine awN ?_;simp only [F75,seval,aJ,aJ,ai];repeat refine ob ?_
 refine ⟨_,(xC e.cash hce.1),rfl,?_⟩;try simp only [ak,F75,seval,aJ,aJ,ai]
 repeat refine ob ?_
 refine awN ?_;simp only [F75,seval,aJ,aJ];repeat refine ob ?_
 refine lX 2003 3 2033 _ 38 5 (by decide) (by rfl) (by decide) (by simp) (by rfl) ?_;refine eC H [1,2,3,19,20,21] [2001,2002,2003,2033] (by intro y B h;right;have h9:=hbH y B h;simp only [aB];(repeat rw [if_neg (by omega)]);exact h) ?_;try simp only [ak,F75,seval,aJ,a7,clC,b0,List.length_append,List.length_cons,List.length_nil]
 repeat' first|apply awS|apply awB
 refine aM (fun n st=>∃i0 out s nx,i0<=e.claims.length/\n=e.claims.length-i0/\out++List.map clC (e.claims.drop i0)=[]++List.map clC e.claims/\out.length=i0/\st=⟨mkT [(1,.val (.one (.ptr 2001 ny 0))),(2,.val (.one (.ptr 2002 (ny+1) 0))),(3,.val (.one (.ptr 2003 (ny+2) 0))),(19,.val (.one (.sh 5 e.claims.length (aA b0 e.claims)))),(20,one (.int .i64 e.claims.length)),(21,one (.int .i64 i0))],bZ H [(2001,⟨ny,36,5,1,aJ e⟩),(2002,⟨ny+1,36,5,1,[.lit (.bool false),.lit (.string ay),.lit (.string ay),.lit (.slice none 0 0),.lit (.slice none 0 0)]⟩),(2003,⟨ny+2,36,5,1,[.lit (.bool (clR e.cash).neg),.lit (.string (clR e.cash).num),.lit (.string (clR e.cash).den),.own 2033 s out.length 5,.lit (.slice none 0 0)]⟩),(2033,⟨s,38,5,out.length,aA b0 out⟩)],nx,2000⟩) (e.claims.length) ⟨0,[],_,_,by omega,by omega,by rfl,(by first|omega|assumption|rfl|simp|(simp;omega)),rfl⟩ ?_;rintro n0 st ⟨i0,out,s,nx0,hk0,rfl,hL0,hV0_1,rfl⟩;by_cases hlt0:i0<e.claims.length
 ·skip;have hI0:(i0:Int)<(e.claims.length:Int):=by omega
  have hat0:=aO cK e.claims i0 hlt0;try rw [Nat.mul_one] at hat0
  rw [List.drop_eq_getElem_cons hlt0] at hL0;have hcc:=hce.2.2.1 _ (List.getElem_mem hlt0);generalize e.claims[i0]=c at *
  simp only [List.map_cons,List.map_nil,List.append_nil] at hL0;refine awN ?_;simp only [F75,seval,aJ,hI0,hat0];repeat refine ob ?_
  refine awT ?_;refine awK ?_;simp only [F75,seval];refine awN ?_;simp only [F75,seval,aJ,hI0,hat0,b0];repeat refine ob ?_
  refine awN ?_;simp only [F75,seval,aJ,hI0,hat0,b0,ai];repeat refine ob ?_
  refine ⟨_,(xC c.amount hcc),rfl,?_⟩;try simp only [ak,F75,seval,aJ,hI0,hat0,b0,ai]
  repeat refine ob ?_
  refine awN ?_;simp only [F75,seval,aJ,hI0,hat0];repeat refine ob ?_
  refine awN ?_;simp only [F75,seval,aJ,hI0,hat0];repeat refine ob ?_
  repeat refine ob ?_
  refine ⟨_,fP H [1,2,3,19,20,21] [2001,2002,2003,2033] (by intro y B h;right;have h9:=hbH y B h;simp only [aB];(repeat rw [if_neg (by omega)]);exact h),e.claims.length-(i0+1),by omega,i0+1,(out++[clC c]),?a8_s,?a8_nx,by omega,rfl,?i8_0,?i8_1,?st8⟩;case st8=>(simp only [F75,seval,a7,clC,b0,List.length_append,List.length_cons,List.length_nil,aJ,hI0,hat0];first|rfl|(simp [a7,clC,b0,List.length_append,List.length_cons,List.length_nil,hI0,hat0,Nat.add_mul];done))
  case i8_0=>(simpa using hL0)
  all_goals (first|omega|assumption|(simp;omega)|(simp_all;done))
 skip;obtain rfl:i0=e.claims.length:=by omega
 have hI0:¬(e.claims.length:Int)<(e.claims.length:Int):=by omega
 rw [List.drop_length] at hL0;simp only [List.map_cons,List.map_nil,List.append_nil] at hL0;have hol:=hV0_1;subst hL0;refine awN ?_;simp only [F75,seval,aJ,hI0];repeat refine ob ?_
 refine awF ?_;refine awQ ?_;simp only [F75,seval];refine awN ?_;simp only [F75,seval,aJ,hI0,aJ];repeat refine ob ?_
 refine lX 2003 4 2076 _ 50 1 (by decide) (by rfl) (by decide) (by simp) (by rfl) ?_;refine eC H [1,2,3,37,38,39] [2001,2002,2003,2033,2076] (by intro y B h;right;have h9:=hbH y B h;simp only [aB];(repeat rw [if_neg (by omega)]);exact h) ?_;try simp only [ak,F75,seval,aJ,hI0,a7,clA,bu,List.length_append,List.length_cons,List.length_nil,List.length_map]
 repeat' first|apply awS|apply awB
 refine aM (fun n st=>∃i1 oa sa nx,i1<=e.agrs.length/\n=e.agrs.length-i1/\oa++List.map clA (e.agrs.drop i1)=[]++List.map clA e.agrs/\oa.length=i1/\st=⟨mkT [(1,.val (.one (.ptr 2001 ny 0))),(2,.val (.one (.ptr 2002 (ny+1) 0))),(3,.val (.one (.ptr 2003 (ny+2) 0))),(37,.val (.one (.sh 1 e.agrs.length (aA bu e.agrs)))),(38,one (.int .i64 e.agrs.length)),(39,one (.int .i64 i1))],bZ H [(2001,⟨ny,36,5,1,aJ e⟩),(2002,⟨ny+1,36,5,1,[.lit (.bool false),.lit (.string ay),.lit (.string ay),.lit (.slice none 0 0),.lit (.slice none 0 0)]⟩),(2003,⟨ny+2,36,5,1,[.lit (.bool (clR e.cash).neg),.lit (.string (clR e.cash).num),.lit (.string (clR e.cash).den),.own 2033 s e.claims.length 5,.own 2076 sa oa.length 1]⟩),(2033,⟨s,38,5,e.claims.length,aA b0 (e.claims.map clC)⟩),(2076,⟨sa,50,1,oa.length,aA bu oa⟩)],nx,2000⟩) (e.agrs.length) ⟨0,[],_,_,by omega,by omega,by rfl,(by first|omega|assumption|rfl|simp|(simp;omega)),rfl⟩ ?_;rintro n1 st ⟨i1,oa,sa,nx1,hk1,rfl,hL1,hV1_1,rfl⟩;by_cases hlt1:i1<e.agrs.length
 ·skip;have hI1:(i1:Int)<(e.agrs.length:Int):=by omega
  have hat1:=aO gI e.agrs i1 hlt1;try rw [Nat.mul_one] at hat1
  rw [List.drop_eq_getElem_cons hlt1] at hL1;have hca:=hce.2.2.2.2 _ (List.getElem_mem hlt1);have hn3:=hca.1;generalize e.agrs[i1]=a at *
  simp only [List.map_cons,List.map_nil,List.append_nil] at hL1;refine awN ?_;simp only [F75,seval,aJ,hI0,hI1,hat1];repeat refine ob ?_
  refine awT ?_;refine awK ?_;simp only [F75,seval];refine awN ?_;simp only [F75,seval,aJ,hI0,hI1,hat1,bu];repeat refine ob ?_
  refine awN ?_;simp only [F75,seval,aJ,hI0,hI1,hat1];repeat refine ob ?_
  refine awN ?_;simp only [F75,seval,aJ,hI0,hI1,hat1,bu];repeat refine ob ?_
  refine lX 2008 0 2069 _ 47 1 (by decide) (by rfl) (by decide) (by simp) (by rfl) ?_;refine eC H [1,2,3,37,38,39,7,8,44,45,46] [2001,2002,2003,2033,2076,2007,2008,2069] (by intro y B h;right;have h9:=hbH y B h;simp only [aB];(repeat rw [if_neg (by omega)]);exact h) ?_;try simp only [ak,F75,seval,aJ,hI0,hI1,hat1,a7,clT,bD,List.length_append,List.length_cons,List.length_nil,List.length_map]
  repeat' first|apply awS|apply awB
  refine aM (fun n st=>∃i2 ot s6 nx,i2<=a.length/\n=a.length-i2/\ot++List.map clT (a.drop i2)=[]++List.map clT a/\ot.length=i2/\st=⟨mkT [(1,.val (.one (.ptr 2001 ny 0))),(2,.val (.one (.ptr 2002 (ny+1) 0))),(3,.val (.one (.ptr 2003 (ny+2) 0))),(37,.val (.one (.sh 1 e.agrs.length (aA bu e.agrs)))),(38,one (.int .i64 e.agrs.length)),(39,one (.int .i64 i1)),(7,.val (.one (.ptr 2007 (nx1+0) 0))),(8,.val (.one (.ptr 2008 (nx1+1) 0))),(44,.val (.one (.sh 1 a.length (aA bD a)))),(45,one (.int .i64 a.length)),(46,one (.int .i64 i2))],bZ H [(2001,⟨ny,36,5,1,aJ e⟩),(2002,⟨ny+1,36,5,1,[.lit (.bool false),.lit (.string ay),.lit (.string ay),.lit (.slice none 0 0),.lit (.slice none 0 0)]⟩),(2003,⟨ny+2,36,5,1,[.lit (.bool (clR e.cash).neg),.lit (.string (clR e.cash).num),.lit (.string (clR e.cash).den),.own 2033 s e.claims.length 5,.own 2076 sa oa.length 1]⟩),(2033,⟨s,38,5,e.claims.length,aA b0 (e.claims.map clC)⟩),(2076,⟨sa,50,1,oa.length,aA bu oa⟩),(2007,⟨nx1+0,50,1,1,bu a⟩),(2008,⟨nx1+1,50,1,1,[.own 2069 s6 ot.length 1]⟩),(2069,⟨s6,47,1,ot.length,aA bD ot⟩)],nx,2000⟩) (a.length) ⟨0,[],_,_,by omega,by omega,by rfl,(by first|omega|assumption|rfl|simp|(simp;omega)),rfl⟩ ?_;rintro n2 st ⟨i2,ot,s6,nx2,hk2,rfl,hL2,hV2_1,rfl⟩;by_cases hlt2:i2<a.length
  ·skip;have hI2:(i2:Int)<(a.length:Int):=by omega
   have hat2:=aO eA a i2 hlt2;try rw [Nat.mul_one] at hat2
   rw [List.drop_eq_getElem_cons hlt2] at hL2;have hct:=hca.2 _ (List.getElem_mem hlt2);have hn4:=hct.1;generalize a[i2]=t at *
   simp only [List.map_cons,List.map_nil,List.append_nil] at hL2;refine awN ?_;simp only [F75,seval,aJ,hI0,hI1,hat1,hI2,hat2];repeat refine ob ?_
   refine awT ?_;refine awK ?_;simp only [F75,seval];refine awN ?_;simp only [F75,seval,aJ,hI0,hI1,hat1,hI2,hat2,bD];repeat refine ob ?_
   refine awN ?_;simp only [F75,seval,aJ,hI0,hI1,hat1,hI2,hat2];repeat refine ob ?_
   refine awN ?_;simp only [F75,seval,aJ,hI0,hI1,hat1,hI2,hat2];repeat refine ob ?_
   refine gS 11 2063 46 5 (by decide) (by rfl) ?_;refine eC H [1,2,3,37,38,39,7,8,44,45,46,11,50,51,52] [2001,2002,2003,2033,2076,2007,2008,2069,2063] (by intro y B h;right;have h9:=hbH y B h;simp only [aB];(repeat rw [if_neg (by omega)]);exact h) ?_;try simp only [ak,F75,seval,aJ,hI0,hI1,hat1,hI2,hat2,a7,clP,bT,List.length_append,List.length_cons,List.length_nil]
   repeat' first|apply awS|apply awB
   refine aM (fun n st=>∃i3 op sp nx,i3<=t.length/\n=t.length-i3/\op++List.map clP (t.drop i3)=[]++List.map clP t/\op.length=i3/\st=⟨mkT [(1,.val (.one (.ptr 2001 ny 0))),(2,.val (.one (.ptr 2002 (ny+1) 0))),(3,.val (.one (.ptr 2003 (ny+2) 0))),(37,.val (.one (.sh 1 e.agrs.length (aA bu e.agrs)))),(38,one (.int .i64 e.agrs.length)),(39,one (.int .i64 i1)),(7,.val (.one (.ptr 2007 (nx1+0) 0))),(8,.val (.one (.ptr 2008 (nx1+1) 0))),(44,.val (.one (.sh 1 a.length (aA bD a)))),(45,one (.int .i64 a.length)),(46,one (.int .i64 i2)),(11,.val (.one (.own 2063 sp op.length 5))),(50,.val (.one (.sh 5 t.length (aA bT t)))),(51,one (.int .i64 t.length)),(52,one (.int .i64 i3))],bZ H [(2001,⟨ny,36,5,1,aJ e⟩),(2002,⟨ny+1,36,5,1,[.lit (.bool false),.lit (.string ay),.lit (.string ay),.lit (.slice none 0 0),.lit (.slice none 0 0)]⟩),(2003,⟨ny+2,36,5,1,[.lit (.bool (clR e.cash).neg),.lit (.string (clR e.cash).num),.lit (.string (clR e.cash).den),.own 2033 s e.claims.length 5,.own 2076 sa oa.length 1]⟩),(2033,⟨s,38,5,e.claims.length,aA b0 (e.claims.map clC)⟩),(2076,⟨sa,50,1,oa.length,aA bu oa⟩),(2007,⟨nx1+0,50,1,1,bu a⟩),(2008,⟨nx1+1,50,1,1,[.own 2069 s6 ot.length 1]⟩),(2069,⟨s6,47,1,ot.length,aA bD ot⟩),(2063,⟨sp,46,5,op.length,aA bT op⟩)],nx,2000⟩) (t.length) ⟨0,[],_,_,by omega,by omega,by rfl,(by first|omega|assumption|rfl|simp|(simp;omega)),rfl⟩ ?_;rintro n3 st ⟨i3,op,sp,nx3,hk3,rfl,hL3,hV3_1,rfl⟩;by_cases hlt3:i3<t.length
   ·skip;have hI3:(i3:Int)<(t.length:Int):=by omega
    have hat3:=aO eX t i3 hlt3;try rw [Nat.mul_one] at hat3
    rw [List.drop_eq_getElem_cons hlt3] at hL3;have hpc:=hct.2 _ (List.getElem_mem hlt3);generalize t[i3]=p at *
    simp only [List.map_cons,List.map_nil,List.append_nil] at hL3;refine awN ?_;simp only [F75,seval,aJ,hI0,hI1,hat1,hI2,hat2,hI3,hat3];repeat refine ob ?_
    refine awT ?_;refine awK ?_;simp only [F75,seval];refine awN ?_;simp only [F75,seval,aJ,hI0,hI1,hat1,hI2,hat2,hI3,hat3,bT];repeat refine ob ?_
    refine awN ?_;simp only [F75,seval,aJ,hI0,hI1,hat1,hI2,hat2,hI3,hat3,bT,ai];repeat refine ob ?_
    refine ⟨_,(xC p.cap hpc),rfl,?_⟩;try simp only [ak,F75,seval,aJ,hI0,hI1,hat1,hI2,hat2,hI3,hat3,bT,ai]
    repeat refine ob ?_
    refine awN ?_;simp only [F75,seval,aJ,hI0,hI1,hat1,hI2,hat2,hI3,hat3];repeat refine ob ?_
    refine awN ?_;simp only [F75,seval,aJ,hI0,hI1,hat1,hI2,hat2,hI3,hat3];repeat refine ob ?_
    repeat refine ob ?_
    refine ⟨_,fP H [1,2,3,37,38,39,7,8,44,45,46,11,50,51,52] [2001,2002,2003,2033,2076,2007,2008,2069,2063] (by intro y B h;right;have h9:=hbH y B h;simp only [aB];(repeat rw [if_neg (by omega)]);exact h),t.length-(i3+1),by omega,i3+1,(op++[clP p]),?a24_sp,?a24_nx,by omega,rfl,?i24_0,?i24_1,?st24⟩;case st24=>(simp only [F75,seval,a7,clP,bT,List.length_append,List.length_cons,List.length_nil,aJ,hI0,hI1,hat1,hI2,hat2,hI3,hat3];first|rfl|(simp [a7,clP,bT,List.length_append,List.length_cons,List.length_nil,hI0,hI1,hat1,hI2,hat2,hI3,hat3,Nat.add_mul];done))
    case i24_0=>(simpa using hL3)
    all_goals (first|omega|assumption|(simp;omega)|(simp_all;done))
   skip;obtain rfl:i3=t.length:=by omega
   have hI3:¬(t.length:Int)<(t.length:Int):=by omega
   rw [List.drop_length] at hL3;simp only [List.map_cons,List.map_nil,List.append_nil] at hL3;subst hL3;refine awN ?_;simp only [F75,seval,aJ,hI0,hI1,hat1,hI2,hat2,hI3];repeat refine ob ?_
   refine awF ?_;refine awQ ?_;simp only [F75,seval];refine gT (t:=11) (by rfl) (by rfl) (by decide) (by rfl) ?_;simp only [F75,seval];refine awN ?_;simp only [F75,seval,aJ,hI0,hI1,hat1,hI2,hat2,hI3];repeat refine ob ?_
   refine awN ?_;simp only [F75,seval,aJ,hI0,hI1,hat1,hI2,hat2,hI3];repeat refine ob ?_
   repeat refine ob ?_
   refine ⟨_,fP H [1,2,3,37,38,39,7,8,44,45,46] [2001,2002,2003,2033,2076,2007,2008,2069] (by intro y B h;right;have h9:=hbH y B h;simp only [aB];(repeat rw [if_neg (by omega)]);exact h),a.length-(i2+1),by omega,i2+1,(ot++[clT t]),?a28_s6,?a28_nx,by omega,rfl,?i28_0,?i28_1,?st28⟩;case st28=>(simp only [F75,seval,a7,clT,bD,List.length_append,List.length_cons,List.length_nil,List.length_map,aJ,hI0,hI1,hat1,hI2,hat2,hI3];first|rfl|(simp [a7,clT,bD,List.length_append,List.length_cons,List.length_nil,List.length_map,hI0,hI1,hat1,hI2,hat2,hI3,Nat.add_mul];done))
   case i28_0=>(simpa using hL2)
   all_goals (first|omega|assumption|(simp;omega)|(simp_all;done))
  skip;obtain rfl:i2=a.length:=by omega
  have hI2:¬(a.length:Int)<(a.length:Int):=by omega
  rw [List.drop_length] at hL2;simp only [List.map_cons,List.map_nil,List.append_nil] at hL2;subst hL2;refine awN ?_;simp only [F75,seval,aJ,hI0,hI1,hat1,hI2];repeat refine ob ?_
  refine awF ?_;refine awQ ?_;simp only [F75,seval];refine dp 2069 2008 0 (by rfl) (by rfl) (by rfl) (by decide) (by show (1:Nat)≠0;decide) (by show (1:Nat)≠0;decide) rfl ?_;simp only [F75,seval];refine awN ?_;simp only [F75,seval,aJ,hI0,hI1,hat1,hI2];repeat refine ob ?_
  refine awN ?_;simp only [F75,seval,aJ,hI0,hI1,hat1,hI2];repeat refine ob ?_
  repeat refine ob ?_
  refine ⟨_,fP H [1,2,3,37,38,39] [2001,2002,2003,2033,2076] (by intro y B h;right;have h9:=hbH y B h;simp only [aB];(repeat rw [if_neg (by omega)]);exact h),e.agrs.length-(i1+1),by omega,i1+1,(oa++[clA a]),?a32_sa,?a32_nx,by omega,rfl,?i32_0,?i32_1,?st32⟩;case st32=>(simp only [F75,seval,a7,clA,bu,List.length_append,List.length_cons,List.length_nil,List.length_map,aJ,hI0,hI1,hat1,hI2];first|rfl|(simp [a7,clA,bu,List.length_append,List.length_cons,List.length_nil,List.length_map,hI0,hI1,hat1,hI2,Nat.add_mul];done))
  case i32_0=>(simpa using hL1)
  all_goals (first|omega|assumption|(simp;omega)|(simp_all;done))
 skip;obtain rfl:i1=e.agrs.length:=by omega
 have hI1:¬(e.agrs.length:Int)<(e.agrs.length:Int):=by omega
 rw [List.drop_length] at hL1;simp only [List.map_cons,List.map_nil,List.append_nil] at hL1;subst hL1;refine awN ?_;simp only [F75,seval,aJ,hI0,hI1];repeat refine ob ?_
 refine awF ?_;refine awQ ?_;simp only [F75,seval];refine dp 2076 2003 4 (by rfl) (by rfl) (by rfl) (by decide) (by show (1:Nat)≠0;decide) (by show (5:Nat)≠0;decide) rfl ?_;simp only [F75,seval];refine awN ?_;simp only [F75,seval,aJ,hI0,hI1];repeat refine ob ?_
 refine eC H [2] [2033,2002] (by intro y B h;right;have h9:=hbH y B h;simp only [aB];(repeat rw [if_neg (by omega)]);exact h) ?_;simp only [F75,seval];refine awX ?_;simp only [F75,seval];refine ⟨s,ny+1,?_,?_⟩<;>simp only [List.length_map]
theorem Jv {E:TypeId} {ps:List (GEst×Nat)} {H:Hp} (hbH:∀y B,H y=some B->y<200) {y:Nat} {B:Blk} (h:orT 103 E ps H y=some B):y<200∨y%1000=103:=by
 rcases wN h with ⟨a,r,rfl,_,_⟩|h8
 ·right;omega
 exact .inl (hbH y B h8)
theorem onG {E:TypeId} {ps:List (GEst×Nat)} {H f:Hp} (hbH:∀y B,H y=some B->y<200) (hf:∀x,(x<200∨x%1000=103)->f x=orT 103 E ps H x) (l:List Nat):∀x B,orT 103 E ps H x=some B->fA l x=true∨f x=some B:=fun x B hB=> .inr (by rw [hf x (Jv hbH hB)];exact hB)
def F76:=And.intro zS (And.intro pt (And.intro Gd (And.intro ll (And.intro CF (And.intro vh (And.intro Ge (And.intro BK (And.intro AY (And.intro Gj (And.intro mN (And.intro pq (And.intro nX (And.intro CH (And.intro tw (And.intro pr (And.intro Gm (And.intro AZ (And.intro Ev (Fl)))))))))))))))))))
theorem F77:type_of%F76:=F76
theorem KX (g:GGrp) (hg:cqG g) (H:Hp) (ny:Nat) (hbH:∀y B,H y=some B->y<200):cT prog 62 [.agg (am g)] H ny
  (fun res H' _=>∃ps s t,ps.map (·.1)=g.ests.map clE/\res= .val (.agg [.own 220 s g.ests.length 5,.sh 4 (g.debts.map clD).length (aA fu (g.debts.map clD))])/\H'=bZ (orT 103 38 ps H) [(220,⟨s,36,5,g.ests.length,eRw (gm 103) ps 0⟩),(202,⟨t,28,2,1,[.own 220 s g.ests.length 5,.sh 4 (g.debts.map clD).length (aA fu (g.debts.map clD))]⟩)]):=by
 have hn1:=hg.1;have hn2:=hg.2.2.1;refine cF 200 func62 rfl (by decide) (N:=44) rfl (by simp) (Rl:=[.cell 2 28]) rfl fun en k0=>?_
 refine awN ?_;simp only [F77,seval,am];repeat refine ob ?_
 refine awN ?_;simp only [F77,seval,am];repeat refine ob ?_
 refine awN ?_;simp only [F77,seval,am,am];repeat refine ob ?_
 refine lX 203 0 220 _ 36 5 (by decide) (by rfl) (by decide) (by simp) (by rfl) ?_;refine eC H [1,2,3,9,10,11] [201,202,203,220] (by intro y B h;right;have h9:=hbH y B h;simp only [aB];(repeat rw [if_neg (by omega)]);exact h) ?_;try simp only [ak,F77,seval,am]
 repeat' first|apply awS|apply awB
 refine aM (fun n st=>∃k ps s nx,k<=g.ests.length/\n=g.ests.length-k/\ps.map (·.1)=(g.ests.take k).map clE/\st=⟨mkT [(1,.val (.one (.ptr 201 ny 0))),(2,.val (.one (.ptr 202 (ny+1) 0))),(3,.val (.one (.ptr 203 (ny+2) 0))),(9,.val (.one (.sh 5 g.ests.length (aA aJ g.ests)))),(10,one (.int .i64 g.ests.length)),(11,one (.int .i64 k))],bZ (orT 103 38 ps H) [(201,⟨ny,28,2,1,am g⟩),(202,⟨ny+1,28,2,1,[.lit (.slice none 0 0),.lit (.slice none 0 0)]⟩),(203,⟨ny+2,28,2,1,[.own 220 s k 5,.lit (.slice none 0 0)]⟩),(220,⟨s,36,5,k,eRw (gm 103) ps 0⟩)],nx,200⟩) (g.ests.length) ⟨0,[],_,_,by omega,by omega,by simp,by rw [Ln];rfl⟩ ?_;rintro n0 st ⟨k,ps,s,nx0,hk,rfl,hps,rfl⟩;by_cases hlt0:(k:Int)<(g.ests.length:Int)
 ·refine awN ?_;simp only [F77,seval,am,hlt0];repeat refine ob ?_
  refine awT ?_;refine awK ?_;simp only [F77,seval];have hkl:k<g.ests.length:=by omega
  have hat:=aO i4 g.ests k hkl;obtain ⟨e,hXe⟩:∃e,g.ests[k]=e:=⟨_,rfl⟩;have hce9:cqE e:=hXe▸hg.2.1 _ (List.getElem_mem hkl);rw [hXe] at hat;have hpl:ps.length=k:=by have:=congrArg List.length hps;simp at this;omega
  have hrl:=pn (gm 103) ps 0;refine awN ?_;simp only [F77,seval,am,hlt0,hat,aJ];repeat refine ob ?_
  repeat' first|apply awS|apply awB
  refine cb [18] (by kernel_rfl) (.cons 0 true (.cons 2 true (.two 1 3 (.cons 3 false (.cons 4 false (.cons 5 false (.cons 6 true (.cons 7 false .nil))))) (.cons 1 true (.cons 4 false (.cons 5 false (.cons 6 true (.cons 7 false .nil)))))))) (by kernel_rfl) (gs:=[none,none,none,none,none,none,none,none]) (by kernel_rfl) (by simp only [zT,seval];rfl) (by decide) ?_;simp only [F77,seval,am,hlt0,aJ,hrl,hpl,(id SD)];repeat refine ob ?_
  refine ⟨?_,?_⟩
  ·repeat refine ob ?_
   refine ⟨_,Ka e hce9 _ _ (fun y B hB=>?_),?_⟩
   ·simp only [aB] at hB;repeat (split at hB;· omega)
    have:=Jv hbH hB;omega
   rintro res H' nx' ⟨s1,t1,rfl,rfl⟩;simp only [F77,seval,(id SD),and_self,false_and];repeat refine ob ?_
   refine EQ 2033 (1000*(k+1)+103) 220 (k*5+3) (by rfl) (by rfl) (by rw [←hpl];exact JX ps _ _ _ _ _) (by decide) (by omega) (by show (5:Nat)≠0;decide) (by show (5:Nat)≠0;decide) rfl ?_;have hsn:=fun z x=>JW ps (clE e,z) x
   rw [hpl] at hsn;simp only [clE,List.length_map] at hsn;refine awN ?_;simp only [F77,seval,am,hlt0];repeat refine ob ?_
   refine ⟨_,fP (orT 103 38 (ps++[(clE e,?zz8)]) H) [1,2,3,9,10,11] [201,202,203,220] ?pf8,g.ests.length-(k+1),by omega,k+1,ps++[(clE e,?zz8)],?ss8,?na8,by omega,rfl,?mp8,?st8⟩;case st8=>
    simp only [F77,seval,List.length_map];rw [hsn];try rfl
   case mp8=>rw [List.map_append,hps,List.take_succ_eq_append_getElem hkl,hXe,List.map_append];rfl
   case pf8=>
    intro y B h;right;rcases wN h with ⟨a,r,rfl,h2,rfl⟩|h8
    ·by_cases ha:a=k
     ·subst ha;rw [List.getElem?_append_right (by omega),hpl,Nat.sub_self] at h2;obtain rfl:=Option.some.inj h2;simp only [aB];rw [if_neg (by omega)];first|rw [if_pos rfl]|rw [if_pos trivial]
      simp [clE]
     have hak:a<k:=by have:=(List.getElem?_eq_some_iff.1 h2).1;simp at this;omega
     rw [List.getElem?_append_left (by omega)] at h2;simp only [aB];repeat rw [if_neg (by omega)]
     exact JK (by decide) h2
    have h9:=hbH y B h8;simp only [aB];repeat rw [if_neg (by omega)]
    rw [Ke (by omega)];exact h8
  repeat refine ob ?_
  refine ⟨_,Ka e hce9 _ _ (fun y B hB=>?_),?_⟩
  ·simp only [aB] at hB;repeat (split at hB;· omega)
   have:=Jv hbH hB;omega
  rintro res H' nx' ⟨s1,t1,rfl,rfl⟩;simp only [F77,seval,(id SD),and_self,false_and];repeat refine ob ?_
  refine EQ 2033 (1000*(k+1)+103) 220 (k*5+3) (by rfl) (by rfl) (by rw [←hpl];exact JX ps _ _ _ _ _) (by decide) (by omega) (by show (5:Nat)≠0;decide) (by show (5:Nat)≠0;decide) rfl ?_;have hsn:=fun z x=>JW ps (clE e,z) x
  rw [hpl] at hsn;simp only [clE,List.length_map] at hsn;refine awN ?_;simp only [F77,seval,am,hlt0];repeat refine ob ?_
  refine ⟨_,fP (orT 103 38 (ps++[(clE e,?zz10)]) H) [1,2,3,9,10,11] [201,202,203,220] ?pf10,g.ests.length-(k+1),by omega,k+1,ps++[(clE e,?zz10)],?ss10,?na10,by omega,rfl,?mp10,?st10⟩;case st10=>
   simp only [F77,seval,List.length_map];rw [hsn];try rfl
  case mp10=>rw [List.map_append,hps,List.take_succ_eq_append_getElem hkl,hXe,List.map_append];rfl
  case pf10=>
   intro y B h;right;rcases wN h with ⟨a,r,rfl,h2,rfl⟩|h8
   ·by_cases ha:a=k
    ·subst ha;rw [List.getElem?_append_right (by omega),hpl,Nat.sub_self] at h2;obtain rfl:=Option.some.inj h2;simp only [aB];rw [if_neg (by omega)];first|rw [if_pos rfl]|rw [if_pos trivial]
     simp [clE]
    have hak:a<k:=by have:=(List.getElem?_eq_some_iff.1 h2).1;simp at this;omega
    rw [List.getElem?_append_left (by omega)] at h2;simp only [aB];repeat rw [if_neg (by omega)]
    exact JK (by decide) h2
   have h9:=hbH y B h8;simp only [aB];repeat rw [if_neg (by omega)]
   rw [Ke (by omega)];exact h8
 refine awN ?_;simp only [F77,seval,am,hlt0];repeat refine ob ?_
 refine awF ?_;refine awQ ?_;simp only [F77,seval];refine awN ?_;simp only [F77,seval,am,hlt0,am];repeat refine ob ?_
 obtain rfl:k=g.ests.length:=by omega
 rw [List.take_length] at hps;refine lX 203 1 240 _ 42 4 (by decide) (by rfl) (by decide) (by simp) (by rfl) ?_;refine eC (orT 103 38 ps H) [1,2,3,24,25,26] [201,202,203,220,240] (onG hbH (fun x h=>by simp only [aB];repeat rw [if_neg (by omega)]) _) ?_;try simp only [ak,F77,seval,am,hlt0,a7,clD,fu,List.length_append,List.length_cons,List.length_nil]
 repeat' first|apply awS|apply awB
 refine aM (fun n st=>∃i1 od sd nx,i1<=g.debts.length/\n=g.debts.length-i1/\od++List.map clD (g.debts.drop i1)=[]++List.map clD g.debts/\od.length=i1/\st=⟨mkT [(1,.val (.one (.ptr 201 ny 0))),(2,.val (.one (.ptr 202 (ny+1) 0))),(3,.val (.one (.ptr 203 (ny+2) 0))),(24,.val (.one (.sh 4 g.debts.length (aA fu g.debts)))),(25,one (.int .i64 g.debts.length)),(26,one (.int .i64 i1))],bZ (orT 103 38 ps H) [(201,⟨ny,28,2,1,am g⟩),(202,⟨ny+1,28,2,1,[.lit (.slice none 0 0),.lit (.slice none 0 0)]⟩),(203,⟨ny+2,28,2,1,[.own 220 s g.ests.length 5,.own 240 sd od.length 4]⟩),(220,⟨s,36,5,g.ests.length,eRw (gm 103) ps 0⟩),(240,⟨sd,42,4,od.length,aA fu od⟩)],nx,200⟩) (g.debts.length) ⟨0,[],_,_,by omega,by omega,by rfl,(by first|omega|assumption|rfl|simp|(simp;omega)),rfl⟩ ?_;rintro n1 st ⟨i1,od,sd,nx1,hk1,rfl,hL1,hV1_1,rfl⟩;by_cases hlt1:i1<g.debts.length
 ·have hI1:(i1:Int)<(g.debts.length:Int):=by omega
  have hat1:=aO gb g.debts i1 hlt1;try rw [Nat.mul_one] at hat1
  rw [List.drop_eq_getElem_cons hlt1] at hL1;have hdd:=hg.2.2.2 _ (List.getElem_mem hlt1);generalize g.debts[i1]=d at *
  simp only [List.map_cons,List.map_nil,List.append_nil] at hL1;refine awN ?_;simp only [F77,seval,am,hlt0,hI1,hat1];repeat refine ob ?_
  refine awT ?_;refine awK ?_;simp only [F77,seval];refine awN ?_;simp only [F77,seval,am,hlt0,hI1,hat1,fu];repeat refine ob ?_
  refine awD (scT 0 4 (scq [11,13,8,14,17,18,20,23,24] .nil)) [0,0,0,0,0,0,0,0,0,0,0,0,0] ?_;simp only [F77,seval,am,hlt0,hI1,hat1,fu,ai,ab i5];repeat refine ob ?_
  refine ⟨_,(xC d.whole hdd.1),(by first|rfl|simp [aU,aD,al,ax,A1.cells,ai,ab i5]),?_⟩;try simp only [ak,F77,seval,am,hlt0,hI1,hat1,fu,ai,ab i5]
  repeat refine ob ?_
  refine ⟨_,(KV d.legs hdd.2),(by first|rfl|simp [aU,aD,al,ax,A1.cells,ai,ab i5]),?_⟩;try simp only [ak,F77,seval,am,hlt0,hI1,hat1,fu,ai,ab i5]
  repeat refine ob ?_
  refine awN ?_;simp only [F77,seval,am,hlt0,hI1,hat1];repeat refine ob ?_
  repeat refine ob ?_
  refine ⟨_,fP (orT 103 38 ps H) [1,2,3,24,25,26] [201,202,203,220,240] (onG hbH (fun x h=>by simp only [aB];repeat rw [if_neg (by omega)]) _),g.debts.length-(i1+1),by omega,i1+1,(od++[clD d]),?a16_sd,?a16_nx,by omega,rfl,?i16_0,?i16_1,?st16⟩;case st16=>(simp only [F77,seval,a7,clD,fu,List.length_append,List.length_cons,List.length_nil,am,hlt0,hI1,hat1];first|rfl|(simp [a7,clD,fu,List.length_append,List.length_cons,List.length_nil,hlt0,hI1,hat1,Nat.add_mul];done))
  case i16_0=>(simpa using hL1)
  all_goals (first|omega|assumption|(simp;omega)|(simp_all;done))
 obtain rfl:i1=g.debts.length:=by omega
 have hI1:¬(g.debts.length:Int)<(g.debts.length:Int):=by omega
 rw [List.drop_length] at hL1;simp only [List.map_cons,List.map_nil,List.append_nil] at hL1;subst hL1;refine awN ?_;simp only [F77,seval,am,hlt0,hI1];repeat refine ob ?_
 refine awF ?_;refine awQ ?_;simp only [F77,seval];refine dp 240 203 1 (by rfl) (by rfl) (by rfl) (by decide) (by show (4:Nat)≠0;decide) (by show (2:Nat)≠0;decide) rfl ?_;simp only [F77,seval];refine awN ?_;simp only [F77,seval,am,hlt0,hI1];repeat refine ob ?_
 refine eC (orT 103 38 ps H) [2] [220,202] (onG hbH (fun x h=>by simp only [aB];repeat rw [if_neg (by omega)]) _) ?_;simp only [F77,seval];refine awX ?_;simp only [F77,seval];exact ⟨ps,s,_,hps,rfl,rfl⟩
theorem LF (cl:List GClaim) (k:Nat) (o:GOpt) (hk:k<cl.length):spl (spl (aA b0 cl) (k*5+2) (ai (clR o.amount))) (k*5+1) [.lit (.int .i64 o.rank)]=aA b0 (cl.set k (opC (cl.getD k default) o)):=by
 have hg:cl.getD k default=cl[k]:=by rw [List.getD_eq_getElem?_getD,List.getElem?_eq_getElem hk];rfl
 have h1:=zl cK cl k 2 (ai (clR o.amount)) ⟨cl[k].holder,cl[k].rank,clR o.amount⟩ hk (by simp [ai]) (by simp [b0,spl,ai]);have h2:=zl cK (cl.set k ⟨cl[k].holder,cl[k].rank,clR o.amount⟩) k 1 [.lit (.int .i64 o.rank)] ⟨cl[k].holder,o.rank,clR o.amount⟩ (by simpa using hk) (by simp) (by simp [b0,spl]);rw [h1,h2,List.set_set,hg];rfl
def F78:=And.intro zS (And.intro Gc (And.intro Gd (And.intro Ep (And.intro CF (And.intro gH (And.intro dN (And.intro tu (And.intro BK (And.intro vg (And.intro Eq (And.intro Hw (And.intro Hx (And.intro tv (And.intro mN (And.intro pr (jz))))))))))))))))
theorem F79:type_of%F78:=F78
theorem NW (ps:List (GEst×Nat)) (ds:List GDebt) (je kc:Int) (op:GOpt) (q:GEst×Nat) (n9 s:Nat) (H:Hp) (ny:Nat) (hpn:n9=ps.length) (hn9:n9<=1000000) (hop:cqR op.amount) (hj0:0<=je) (hq:ps[je.toNat]? =some q) (hk0:0<=kc) (hk1:kc.toNat<q.1.claims.length) (hcl:q.1.claims.length<=1000000)
  (h220:H 220=some ⟨s,36,5,n9,eRw (gm 103) ps 0⟩) (htab:∀j q,ps[j]? =some q->H (1000*(j+1)+103)=some ⟨q.2,38,5,q.1.claims.length,aA b0 q.1.claims⟩) (hbH:∀y B,H y=some B->y<2000∨y%1000=103):cT prog 63 [.agg [.own 220 s n9 5,.sh 4 ds.length (aA fu ds)],.agg (gp (je,kc)),.agg (jU op)] H ny
  (fun res H' _=>res= .tup []/\∀y B,up H (1000*(je.toNat+1)+103) (some ⟨q.2,38,5,q.1.claims.length,aA b0 (q.1.claims.set kc.toNat (opC (q.1.claims.getD kc.toNat default) op))⟩) y=some B->H' y=some B):=by
 obtain ⟨j,rfl⟩:∃j:Nat,je=(j:Int):=⟨je.toNat,by omega⟩;obtain ⟨k,rfl⟩:∃k:Nat,kc=(k:Int):=⟨kc.toNat,by omega⟩;simp only [Int.toNat_natCast] at hq hk1 ⊢;have hjl:j<ps.length:=(List.getElem?_eq_some_iff.1 hq).1;have hkl:k<q.1.claims.length:=by omega
 have hget:=Jn (gm 103) ps j q hq;have hfo:gm 103 j q= .own (1000*(j+1)+103) q.2 q.1.claims.length 5:=rfl;rw [hfo] at hget;have hrl:=pn (gm 103) ps 0;have htb:=htab j q hq;obtain ⟨b9,hb9⟩:∃b,b=1000*(j+1)+103:=⟨_,rfl⟩;rw [←hb9] at hget htb ⊢;have F9:∀c,c%1000≠103->((b9=c)=False/\(c=b9)=False):=fun c hc=>⟨by simp;omega,by simp;omega⟩
 have hfl:=bo cK q.1.claims;have h2:=LF q.1.claims k op hkl;have hsl:(spl (aA b0 q.1.claims) (k*5+2) (ai (clR op.amount))).length=q.1.claims.length*5:=by simp only [spl,List.length_append,List.length_take,List.length_drop,hfl];simp only [ai,List.length_cons,List.length_nil];omega
 simp only [ai] at h2 hsl;refine cF 2000 func63 rfl (by decide) (N:=28) rfl (by simp) (Rl:=[]) rfl fun en k0=>?_
 refine awN ?_;simp only [F79,seval,gp,jU];repeat refine ob ?_
 refine awD (scT 0 11 .nil) [0,0,0,0,0,0,0,0,0,0,0] ?_;simp only [F79,seval,gp,jU,h220,hget,F9,htb,hrl,hpn];repeat refine ob ?_
 refine awD (scT 0 4 (scq [11] (.two 4 6 (scq [15,17] (.two 6 9 (scq [18,21,23,24] .nil) (scq [13,21,23,24] .nil))) (scq [8,15,17,18,21,23,24] .nil)))) [0,0,0,0,0,0,0,0,0,0,0,0,0] ?_;simp only [F79,seval,gp,jU,ai,F9,htb,hfl,hsl,h2];repeat refine ob ?_
 refine ⟨?_,?_⟩
 ·repeat refine ob ?_
  refine ⟨_,(xC op.amount hop),rfl,?_⟩;try simp only [ak,F79,seval,gp,jU,ai,F9,htb,hfl,hsl,h2]
  repeat refine ob ?_
  refine ⟨?_,?_⟩
  ·repeat refine ob ?_
   try refine ⟨rfl,?_⟩
   intro y B h;try simp only [aB] at h ⊢
   by_cases hy:y=b9
   ·rw [if_pos hy] at h ⊢;exact h
   rw [if_neg hy] at h;have h9:=hbH y B h;rw [if_neg hy];try rw [if_neg hy]
   repeat rw [if_neg (by omega)]
   exact h
  repeat refine ob ?_
  try refine ⟨rfl,?_⟩
  intro y B h;try simp only [aB] at h ⊢
  by_cases hy:y=b9
  ·rw [if_pos hy] at h ⊢;exact h
  rw [if_neg hy] at h;have h9:=hbH y B h;rw [if_neg hy];try rw [if_neg hy]
  repeat rw [if_neg (by omega)]
  exact h
 repeat refine ob ?_
 refine ⟨_,(xC op.amount hop),rfl,?_⟩;try simp only [ak,F79,seval,gp,jU,ai,F9,htb,hfl,hsl,h2]
 repeat refine ob ?_
 try refine ⟨rfl,?_⟩
 intro y B h;try simp only [aB] at h ⊢
 by_cases hy:y=b9
 ·rw [if_pos hy] at h ⊢;exact h
 rw [if_neg hy] at h;have h9:=hbH y B h;rw [if_neg hy];try rw [if_neg hy]
 repeat rw [if_neg (by omega)]
 exact h
end Go.Proofs.YtokmkopihhnggaaGreatDoor
