/- Cells of a row put, read and said in other words; parts of a row of records. No program in sight. -/
import Derived.Test.YtcgpghifhehlhaaGreatDoorAbBM
import Derived.Test.YtcgpghifhehlhaaGreatDoorAbGM
import Derived.Test.YtcgpghifhehlhaaGreatDoorRw5M
import Derived.Test.YtcgpghifhehlhaaGreatDoorVal1M
import Derived.Test.YtcgpghifhehlhaaGreatDoorRef11M
import Derived.Test.YtcgpghifhehlhaaGreatDoorClrM
set_option linter.unusedVariables false
set_option maxHeartbeats 4000000
set_option maxRecDepth 100000
set_option linter.unusedSimpArgs false
set_option linter.defProp false
set_option linter.unusedSectionVars false
namespace Go.Proofs.YtcgpghifhehlhaaGreatDoor
open Go Go.RowKit Go.Proofs.Tryz

section
variable {e : En} {H : Hp} {nx : Nat} {σ : Nat → Value} {w : World}
end
theorem EW (r1 r2:GRat) (m n:Nat) (h1:sB m r1) (h2:sB n r2) (hm:m<=100000000000) (hn:n<=100000000000) (hm0:0<m) (hn0:0<n):ch prog 68 [.agg (cS r1),.agg (cS r2)] (.val (.agg (cS (enc (qOf r1+qOf r2))))):=
 eE (iv func68 (by decide) (by kernel_rfl)) [aN r1,aN r2] (aN (enc (qOf r1+qOf r2))) fun w=>uZ r1 r2 m n w h1 h2 hm hn hm0 hn0
theorem EX (r1 r2:GRat) (m n:Nat) (h1:sB m r1) (h2:sB n r2) (hm:m<=100000000000) (hn:n<=100000000000) (hm0:0<m) (hn0:0<n):ch prog 70 [.agg (cS r1),.agg (cS r2)] (.val (.agg (cS (enc (qOf r1-qOf r2))))):=
 eE (iv func70 (by decide) (by kernel_rfl)) [aN r1,aN r2] (aN (enc (qOf r1-qOf r2))) fun w=>iQ r1 r2 m n w h1 h2 hm hn hm0 hn0
theorem EY (r1 r2:GRat) (m n:Nat) (h1:sB m r1) (h2:sB n r2) (hm:m<=100000000000) (hn:n<=100000000000) (hm0:0<m) (hn0:0<n):ch prog 189 [.agg (cS r1),.agg (cS r2)] (.val (.agg (cS (enc (qOf r1*qOf r2))))):=
 eE (iv func189 (by decide) (by kernel_rfl)) [aN r1,aN r2] (aN (enc (qOf r1*qOf r2))) fun w=>J7 r1 r2 m n w h1 h2 hm hn hm0 hn0
theorem EZ (n:Int) (h0: -9223372036854775808<=n) (h1:n<=9223372036854775807):ch prog 33 [.one (.lit (.int .i64 n))] (.val (.agg (cS (enc (n:Rat))))):=
 eE (iv func33 (by decide) (by kernel_rfl)) [.int .i64 n] (aN (enc (n:Rat))) fun w=>CQ n w h0 h1
theorem KR (p q:Rat) (m n:Nat) (hp:qB m p) (hq:qB n q) (hm:m<=100000000000) (hn:n<=100000000000):ch prog 44 [.agg (cS (enc p)),.agg (cS (enc q))] (.val (.agg (cS (enc (p+q))))):=
 eE (iv func44 (by decide) (by kernel_rfl)) [aN (enc p),aN (enc q)] (aN (enc (p+q))) fun w=>Ka p q m n w hp hq hm hn
theorem Ln (p q:Rat) (m n:Nat) (hp:qB m p) (hq:qB n q) (hm:m<=100000000000) (hn:n<=100000000000):ch prog 45 [.agg (cS (enc p)),.agg (cS (enc q))] (.val (.agg (cS (enc (p-q))))):=
 eE (iv func45 (by decide) (by kernel_rfl)) [aN (enc p),aN (enc q)] (aN (enc (p-q))) fun w=>JY p q m n w hp hq hm hn
theorem LQ (p q:Rat) (m n:Nat) (hp:qB m p) (hq:qB n q) (hm:m<=100000000000) (hn:n<=100000000000):ch prog 43 [.agg (cS (enc p)),.agg (cS (enc q))] (one (.bool (decide (p<q)))):=
 eE (iv func43 (by decide) (by kernel_rfl)) [aN (enc p),aN (enc q)] (.bool (decide (p<q))) fun w=>K0 p q m n w hp hq hm hn
theorem Mo (r:GRat) (h1:r.num.size<=500000000000) (h2:r.den.size<=500000000000):ch prog 41 [.agg (cS r)] (.val (.agg (cS (enc (qOf r))))):=
 eE (iv func41 (by decide) (by kernel_rfl)) [aN r] (aN (enc (qOf r))) fun w=>uS r w h1 h2
theorem JU (r:GRat):ch prog 42 [.agg (cS r)] (one (.int .i64 (gW r))):=
 eE (iv func42 (by decide) (by kernel_rfl)) [aN r] (.int .i64 (gW r)) fun w=>qD r w
theorem zq {m:Nat} {r:GRat} (h:sB m r) (hm:0<m):qB m (qOf r):=h.qB hm
def cqR (r:GRat):Prop:=sB 100000000000 r
def cqE (e:GEst):Prop:=cqR e.cash/\e.claims.length<=1000000/\(∀c∈e.claims,cqR c.amount)/\e.agrs.length<=1000000/\∀a∈e.agrs,a.length<=1000000/\∀t∈a,t.length<=1000000/\∀p∈t,cqR p.cap
def cqG (g:GGrp):Prop:=g.ests.length<=1000000/\(∀e∈g.ests,cqE e)/\g.debts.length<=1000000/\∀d∈g.debts,cqR d.whole/\d.legs.length<=1000000
theorem J2 (ps:List (GEst×Nat)) (q:GEst×Nat) (x:C):(eRw (aR 103) ps 0++[.lit (.bool q.1.cash.neg),.lit (.string q.1.cash.num),.lit (.string q.1.cash.den),x,.sh 1 q.1.agrs.length (ar aU q.1.agrs)]).set (ps.length*5+3) (.own (1000*(ps.length+1)+103) q.2 q.1.claims.length 5)=eRw (aR 103) (ps++[q]) 0:=by
 rw [lF,List.set_append_right _ _ (by rw [kz];omega),kz,Nat.add_sub_cancel_left,Nat.zero_add];rfl
theorem J3 (ps:List (GEst×Nat)) (a b c x y:C):(eRw (aR 103) ps 0++[a,b,c,x,y])[ps.length*5+3]? =some x:=by
 rw [List.getElem?_append_right (by rw [kz];omega),kz,Nat.add_sub_cancel_left];rfl
def F38:=And.intro zS (And.intro jS (And.intro z8 (Aa)))
theorem F39:type_of%F38:=F38
theorem JD (r:GRat) (h:cqR r):ch prog 82 [.agg (cS r)] (.val (.agg (cS (clR r)))):=by
 have hA:ch prog 68 [.agg (cS r),.agg [.lit (.bool false),.lit (.string cc),.lit (.string cc)]] (.val (.agg (cS (clR r)))):=by
  have h1:=EW r gZ 100000000000 1 h ⟨by decide,by decide⟩ (by decide) (by decide) (by decide) (by decide);rw [vn,Rat.add_zero] at h1;exact h1
 simp only [cS] at hA;refine bF func82 rfl (by decide) (N:=6) rfl (by simp) (R:=[.cell 2 32]) rfl fun en k0=>?_
 refine awN ?_;simp only [F39,seval,cS];repeat refine ob ?_
 refine awN ?_;simp only [F39,seval,cS];repeat refine ob ?_
 refine ⟨_,hA,rfl,?_⟩;try simp only [aq,F39,seval,cS]
 repeat refine ob ?_
 refine awX ?_;(first|(simp only [F39,seval,cS,cS];done)|(simp only [F39,seval,cS];first|(simp [cS];done)))
def F40:=And.intro zS (And.intro tA (yC))
theorem F41:type_of%F40:=F40
theorem Ku (l:List Leg) (hl:l.length<=1000000):ch prog 83 [.one (.sh 2 l.length (ar f9 l))] (.val (.one (.sh 2 l.length (ar f9 l)))):=by
 refine bF func83 rfl (by decide) (N:=8) rfl (by simp) (R:=[.tmp 2]) rfl fun en k0=>?_
 refine awN ?_;simp only [F41,seval];repeat refine ob ?_
 repeat' first|apply awS|apply awB
 refine Kr [] (gs:=[none,none]) (by rfl) (by kernel_rfl) (by decide) ?_;simp only [F41,seval,(id SF)];repeat refine ob ?_
 intro b hb;cases b
 ·repeat' first|apply awS|apply awB
  refine awF ?_;refine awK ?_;simp only [F41,seval];repeat' first|apply awS|apply awB
  refine Gx [] (gs:=[none,none,none,none]) (by rfl) (by kernel_rfl) (by decide) ?_;simp only [F41,seval,aS cr,(id SD)];repeat refine ob ?_
  refine awX ?_;simp only [F41,seval,ab mN];try simp
 have h0:=hb rfl;obtain rfl:=List.eq_nil_of_length_eq_zero h0;refine awT ?_;refine awN ?_;simp only [F41,seval];repeat refine ob ?_
 refine rS 2 7 44 2 (by decide) (by rfl) ?_;refine awX ?_;simp only [F41,seval];simp [ej]
def F42:=And.intro zS (And.intro tf1 (And.intro yE (And.intro Jy (And.intro tf6 (And.intro tf2 (And.intro zw (And.intro pj (And.intro tf0 (And.intro tf8 (And.intro u9 (And.intro yG (And.intro pk (And.intro zA (And.intro mf (And.intro pi (And.intro zB (And.intro tx (And.intro tf3 (And.intro pn (And.intro nK (And.intro tC (And.intro tu (And.intro jS (And.intro Ab (And.intro Ac (And.intro nL (And.intro po (And.intro z7 (tf5)))))))))))))))))))))))))))))
theorem F43:type_of%F42:=F42
theorem Kd (e:GEst) (hce:cqE e) (H:Hp) (ny:Nat) (hbH:∀y B,H y=some B->y<2000∨y%1000=103):dk prog 81 [.agg (bh e)] H ny
  (fun res H' _=>∃s t,res= .val (.agg [.lit (.bool (clR e.cash).neg),.lit (.string (clR e.cash).num),.lit (.string (clR e.cash).den),.own 2033 s e.claims.length 5,.sh 1 (e.agrs.map clA).length (ar aU (e.agrs.map clA))])/\H'=bW H [(2033,⟨s,38,5,e.claims.length,ar aA (e.claims.map clC)⟩),(2002,⟨t,36,5,1,[.lit (.bool (clR e.cash).neg),.lit (.string (clR e.cash).num),.lit (.string (clR e.cash).den),.own 2033 s e.claims.length 5,.sh 1 (e.agrs.map clA).length (ar aU (e.agrs.map clA))]⟩)]):=by
 have hn1:=hce.2.1;have hn2:=hce.2.2.2.1;refine fm 2000 func81 rfl (by decide) (N:=80) rfl (by simp) (Rl:=[.cell 2 36]) rfl fun en k0=>?_
 refine awN ?_;simp only [F43,seval,bh];repeat refine ob ?_
 refine awN ?_;simp only [F43,seval,bh,bh,cS];repeat refine ob ?_
 refine ⟨_,(JD e.cash hce.1),rfl,?_⟩;try simp only [aq,F43,seval,bh,bh,cS]
 repeat refine ob ?_
 refine awN ?_;simp only [F43,seval,bh,bh];repeat refine ob ?_
 refine dE 2003 3 2033 _ 38 5 (by decide) (by rfl) (by decide) (by simp) (by rfl) ?_;refine aE H [1,2,3,19,20,21] [2001,2002,2003,2033] (by intro y B h;right;have h9:=hbH y B h;simp only [aj];(repeat rw [if_neg (by omega)]);exact h) ?_;try simp only [aq,F43,seval,bh,ay,clC,aA,List.length_append,List.length_cons,List.length_nil]
 repeat' first|apply awS|apply awB
 refine aB (fun n st=>∃i0 out s nx,i0<=e.claims.length/\n=e.claims.length-i0/\out++List.map clC (e.claims.drop i0)=[]++List.map clC e.claims/\out.length=i0/\st=⟨mkT [(1,.val (.one (.ptr 2001 ny 0))),(2,.val (.one (.ptr 2002 (ny+1) 0))),(3,.val (.one (.ptr 2003 (ny+2) 0))),(19,.val (.one (.sh 5 e.claims.length (ar aA e.claims)))),(20,one (.int .i64 e.claims.length)),(21,one (.int .i64 i0))],bW H [(2001,⟨ny,36,5,1,bh e⟩),(2002,⟨ny+1,36,5,1,[.lit (.bool false),.lit (.string cc),.lit (.string cc),.lit (.slice none 0 0),.lit (.slice none 0 0)]⟩),(2003,⟨ny+2,36,5,1,[.lit (.bool (clR e.cash).neg),.lit (.string (clR e.cash).num),.lit (.string (clR e.cash).den),.own 2033 s out.length 5,.lit (.slice none 0 0)]⟩),(2033,⟨s,38,5,out.length,ar aA out⟩)],nx,2000⟩) (e.claims.length) ⟨0,[],_,_,by omega,by omega,by rfl,(by first|omega|assumption|rfl|simp|(simp;omega)),rfl⟩ ?_;rintro n0 st ⟨i0,out,s,nx0,hk0,rfl,hL0,hV0_1,rfl⟩;by_cases hlt0:i0<e.claims.length
 ·skip;have hI0:(i0:Int)<(e.claims.length:Int):=by omega
  have hat0:=aO bX e.claims i0 hlt0;try rw [Nat.mul_one] at hat0
  rw [List.drop_eq_getElem_cons hlt0] at hL0;have hcc:=hce.2.2.1 _ (List.getElem_mem hlt0);generalize e.claims[i0]=c at *
  simp only [List.map_cons,List.map_nil,List.append_nil] at hL0;refine awN ?_;simp only [F43,seval,bh,hI0,hat0];repeat refine ob ?_
  refine awT ?_;refine awK ?_;simp only [F43,seval];refine awN ?_;simp only [F43,seval,bh,hI0,hat0,aA];repeat refine ob ?_
  refine awN ?_;simp only [F43,seval,bh,hI0,hat0,aA,cS];repeat refine ob ?_
  refine ⟨_,(JD c.amount hcc),rfl,?_⟩;try simp only [aq,F43,seval,bh,hI0,hat0,aA,cS]
  repeat refine ob ?_
  refine awN ?_;simp only [F43,seval,bh,hI0,hat0];repeat refine ob ?_
  refine awN ?_;simp only [F43,seval,bh,hI0,hat0];repeat refine ob ?_
  repeat refine ob ?_
  refine ⟨_,bE H [1,2,3,19,20,21] [2001,2002,2003,2033] (by intro y B h;right;have h9:=hbH y B h;simp only [aj];(repeat rw [if_neg (by omega)]);exact h),e.claims.length-(i0+1),by omega,i0+1,(out++[clC c]),?a8_s,?a8_nx,by omega,rfl,?i8_0,?i8_1,?st8⟩;case st8=>(simp only [F43,seval,ay,clC,aA,List.length_append,List.length_cons,List.length_nil,bh,hI0,hat0];first|rfl|(simp [ay,clC,aA,List.length_append,List.length_cons,List.length_nil,hI0,hat0,Nat.add_mul];done))
  case i8_0=>(simpa using hL0)
  all_goals (first|omega|assumption|(simp;omega)|(simp_all;done))
 skip;obtain rfl:i0=e.claims.length:=by omega
 have hI0:¬(e.claims.length:Int)<(e.claims.length:Int):=by omega
 rw [List.drop_length] at hL0;simp only [List.map_cons,List.map_nil,List.append_nil] at hL0;have hol:=hV0_1;subst hL0;refine awN ?_;simp only [F43,seval,bh,hI0];repeat refine ob ?_
 refine awF ?_;refine awQ ?_;simp only [F43,seval];refine awN ?_;simp only [F43,seval,bh,hI0,bh];repeat refine ob ?_
 refine dE 2003 4 2076 _ 50 1 (by decide) (by rfl) (by decide) (by simp) (by rfl) ?_;refine aE H [1,2,3,37,38,39] [2001,2002,2003,2033,2076] (by intro y B h;right;have h9:=hbH y B h;simp only [aj];(repeat rw [if_neg (by omega)]);exact h) ?_;try simp only [aq,F43,seval,bh,hI0,ay,clA,aU,List.length_append,List.length_cons,List.length_nil,List.length_map]
 repeat' first|apply awS|apply awB
 refine aB (fun n st=>∃i1 oa sa nx,i1<=e.agrs.length/\n=e.agrs.length-i1/\oa++List.map clA (e.agrs.drop i1)=[]++List.map clA e.agrs/\oa.length=i1/\st=⟨mkT [(1,.val (.one (.ptr 2001 ny 0))),(2,.val (.one (.ptr 2002 (ny+1) 0))),(3,.val (.one (.ptr 2003 (ny+2) 0))),(37,.val (.one (.sh 1 e.agrs.length (ar aU e.agrs)))),(38,one (.int .i64 e.agrs.length)),(39,one (.int .i64 i1))],bW H [(2001,⟨ny,36,5,1,bh e⟩),(2002,⟨ny+1,36,5,1,[.lit (.bool false),.lit (.string cc),.lit (.string cc),.lit (.slice none 0 0),.lit (.slice none 0 0)]⟩),(2003,⟨ny+2,36,5,1,[.lit (.bool (clR e.cash).neg),.lit (.string (clR e.cash).num),.lit (.string (clR e.cash).den),.own 2033 s e.claims.length 5,.own 2076 sa oa.length 1]⟩),(2033,⟨s,38,5,e.claims.length,ar aA (e.claims.map clC)⟩),(2076,⟨sa,50,1,oa.length,ar aU oa⟩)],nx,2000⟩) (e.agrs.length) ⟨0,[],_,_,by omega,by omega,by rfl,(by first|omega|assumption|rfl|simp|(simp;omega)),rfl⟩ ?_;rintro n1 st ⟨i1,oa,sa,nx1,hk1,rfl,hL1,hV1_1,rfl⟩;by_cases hlt1:i1<e.agrs.length
 ·skip;have hI1:(i1:Int)<(e.agrs.length:Int):=by omega
  have hat1:=aO dG e.agrs i1 hlt1;try rw [Nat.mul_one] at hat1
  rw [List.drop_eq_getElem_cons hlt1] at hL1;have hca:=hce.2.2.2.2 _ (List.getElem_mem hlt1);have hn3:=hca.1;generalize e.agrs[i1]=a at *
  simp only [List.map_cons,List.map_nil,List.append_nil] at hL1;refine awN ?_;simp only [F43,seval,bh,hI0,hI1,hat1];repeat refine ob ?_
  refine awT ?_;refine awK ?_;simp only [F43,seval];refine awN ?_;simp only [F43,seval,bh,hI0,hI1,hat1,aU];repeat refine ob ?_
  refine awN ?_;simp only [F43,seval,bh,hI0,hI1,hat1];repeat refine ob ?_
  refine awN ?_;simp only [F43,seval,bh,hI0,hI1,hat1,aU];repeat refine ob ?_
  refine dE 2008 0 2069 _ 47 1 (by decide) (by rfl) (by decide) (by simp) (by rfl) ?_;refine aE H [1,2,3,37,38,39,7,8,44,45,46] [2001,2002,2003,2033,2076,2007,2008,2069] (by intro y B h;right;have h9:=hbH y B h;simp only [aj];(repeat rw [if_neg (by omega)]);exact h) ?_;try simp only [aq,F43,seval,bh,hI0,hI1,hat1,ay,clT,bo,List.length_append,List.length_cons,List.length_nil,List.length_map]
  repeat' first|apply awS|apply awB
  refine aB (fun n st=>∃i2 ot s6 nx,i2<=a.length/\n=a.length-i2/\ot++List.map clT (a.drop i2)=[]++List.map clT a/\ot.length=i2/\st=⟨mkT [(1,.val (.one (.ptr 2001 ny 0))),(2,.val (.one (.ptr 2002 (ny+1) 0))),(3,.val (.one (.ptr 2003 (ny+2) 0))),(37,.val (.one (.sh 1 e.agrs.length (ar aU e.agrs)))),(38,one (.int .i64 e.agrs.length)),(39,one (.int .i64 i1)),(7,.val (.one (.ptr 2007 (nx1+0) 0))),(8,.val (.one (.ptr 2008 (nx1+1) 0))),(44,.val (.one (.sh 1 a.length (ar bo a)))),(45,one (.int .i64 a.length)),(46,one (.int .i64 i2))],bW H [(2001,⟨ny,36,5,1,bh e⟩),(2002,⟨ny+1,36,5,1,[.lit (.bool false),.lit (.string cc),.lit (.string cc),.lit (.slice none 0 0),.lit (.slice none 0 0)]⟩),(2003,⟨ny+2,36,5,1,[.lit (.bool (clR e.cash).neg),.lit (.string (clR e.cash).num),.lit (.string (clR e.cash).den),.own 2033 s e.claims.length 5,.own 2076 sa oa.length 1]⟩),(2033,⟨s,38,5,e.claims.length,ar aA (e.claims.map clC)⟩),(2076,⟨sa,50,1,oa.length,ar aU oa⟩),(2007,⟨nx1+0,50,1,1,aU a⟩),(2008,⟨nx1+1,50,1,1,[.own 2069 s6 ot.length 1]⟩),(2069,⟨s6,47,1,ot.length,ar bo ot⟩)],nx,2000⟩) (a.length) ⟨0,[],_,_,by omega,by omega,by rfl,(by first|omega|assumption|rfl|simp|(simp;omega)),rfl⟩ ?_;rintro n2 st ⟨i2,ot,s6,nx2,hk2,rfl,hL2,hV2_1,rfl⟩;by_cases hlt2:i2<a.length
  ·skip;have hI2:(i2:Int)<(a.length:Int):=by omega
   have hat2:=aO eI a i2 hlt2;try rw [Nat.mul_one] at hat2
   rw [List.drop_eq_getElem_cons hlt2] at hL2;have hct:=hca.2 _ (List.getElem_mem hlt2);have hn4:=hct.1;generalize a[i2]=t at *
   simp only [List.map_cons,List.map_nil,List.append_nil] at hL2;refine awN ?_;simp only [F43,seval,bh,hI0,hI1,hat1,hI2,hat2];repeat refine ob ?_
   refine awT ?_;refine awK ?_;simp only [F43,seval];refine awN ?_;simp only [F43,seval,bh,hI0,hI1,hat1,hI2,hat2,bo];repeat refine ob ?_
   refine awN ?_;simp only [F43,seval,bh,hI0,hI1,hat1,hI2,hat2];repeat refine ob ?_
   refine awN ?_;simp only [F43,seval,bh,hI0,hI1,hat1,hI2,hat2];repeat refine ob ?_
   refine rS 11 2063 46 5 (by decide) (by rfl) ?_;refine aE H [1,2,3,37,38,39,7,8,44,45,46,11,50,51,52] [2001,2002,2003,2033,2076,2007,2008,2069,2063] (by intro y B h;right;have h9:=hbH y B h;simp only [aj];(repeat rw [if_neg (by omega)]);exact h) ?_;try simp only [aq,F43,seval,bh,hI0,hI1,hat1,hI2,hat2,ay,clP,aT,List.length_append,List.length_cons,List.length_nil]
   repeat' first|apply awS|apply awB
   refine aB (fun n st=>∃i3 op sp nx,i3<=t.length/\n=t.length-i3/\op++List.map clP (t.drop i3)=[]++List.map clP t/\op.length=i3/\st=⟨mkT [(1,.val (.one (.ptr 2001 ny 0))),(2,.val (.one (.ptr 2002 (ny+1) 0))),(3,.val (.one (.ptr 2003 (ny+2) 0))),(37,.val (.one (.sh 1 e.agrs.length (ar aU e.agrs)))),(38,one (.int .i64 e.agrs.length)),(39,one (.int .i64 i1)),(7,.val (.one (.ptr 2007 (nx1+0) 0))),(8,.val (.one (.ptr 2008 (nx1+1) 0))),(44,.val (.one (.sh 1 a.length (ar bo a)))),(45,one (.int .i64 a.length)),(46,one (.int .i64 i2)),(11,.val (.one (.own 2063 sp op.length 5))),(50,.val (.one (.sh 5 t.length (ar aT t)))),(51,one (.int .i64 t.length)),(52,one (.int .i64 i3))],bW H [(2001,⟨ny,36,5,1,bh e⟩),(2002,⟨ny+1,36,5,1,[.lit (.bool false),.lit (.string cc),.lit (.string cc),.lit (.slice none 0 0),.lit (.slice none 0 0)]⟩),(2003,⟨ny+2,36,5,1,[.lit (.bool (clR e.cash).neg),.lit (.string (clR e.cash).num),.lit (.string (clR e.cash).den),.own 2033 s e.claims.length 5,.own 2076 sa oa.length 1]⟩),(2033,⟨s,38,5,e.claims.length,ar aA (e.claims.map clC)⟩),(2076,⟨sa,50,1,oa.length,ar aU oa⟩),(2007,⟨nx1+0,50,1,1,aU a⟩),(2008,⟨nx1+1,50,1,1,[.own 2069 s6 ot.length 1]⟩),(2069,⟨s6,47,1,ot.length,ar bo ot⟩),(2063,⟨sp,46,5,op.length,ar aT op⟩)],nx,2000⟩) (t.length) ⟨0,[],_,_,by omega,by omega,by rfl,(by first|omega|assumption|rfl|simp|(simp;omega)),rfl⟩ ?_;rintro n3 st ⟨i3,op,sp,nx3,hk3,rfl,hL3,hV3_1,rfl⟩;by_cases hlt3:i3<t.length
   ·skip;have hI3:(i3:Int)<(t.length:Int):=by omega
    have hat3:=aO gj t i3 hlt3;try rw [Nat.mul_one] at hat3
    rw [List.drop_eq_getElem_cons hlt3] at hL3;have hpc:=hct.2 _ (List.getElem_mem hlt3);generalize t[i3]=p at *
    simp only [List.map_cons,List.map_nil,List.append_nil] at hL3;refine awN ?_;simp only [F43,seval,bh,hI0,hI1,hat1,hI2,hat2,hI3,hat3];repeat refine ob ?_
    refine awT ?_;refine awK ?_;simp only [F43,seval];refine awN ?_;simp only [F43,seval,bh,hI0,hI1,hat1,hI2,hat2,hI3,hat3,aT];repeat refine ob ?_
    refine awN ?_;simp only [F43,seval,bh,hI0,hI1,hat1,hI2,hat2,hI3,hat3,aT,cS];repeat refine ob ?_
    refine ⟨_,(JD p.cap hpc),rfl,?_⟩;try simp only [aq,F43,seval,bh,hI0,hI1,hat1,hI2,hat2,hI3,hat3,aT,cS]
    repeat refine ob ?_
    refine awN ?_;simp only [F43,seval,bh,hI0,hI1,hat1,hI2,hat2,hI3,hat3];repeat refine ob ?_
    refine awN ?_;simp only [F43,seval,bh,hI0,hI1,hat1,hI2,hat2,hI3,hat3];repeat refine ob ?_
    repeat refine ob ?_
    refine ⟨_,bE H [1,2,3,37,38,39,7,8,44,45,46,11,50,51,52] [2001,2002,2003,2033,2076,2007,2008,2069,2063] (by intro y B h;right;have h9:=hbH y B h;simp only [aj];(repeat rw [if_neg (by omega)]);exact h),t.length-(i3+1),by omega,i3+1,(op++[clP p]),?a24_sp,?a24_nx,by omega,rfl,?i24_0,?i24_1,?st24⟩;case st24=>(simp only [F43,seval,ay,clP,aT,List.length_append,List.length_cons,List.length_nil,bh,hI0,hI1,hat1,hI2,hat2,hI3,hat3];first|rfl|(simp [ay,clP,aT,List.length_append,List.length_cons,List.length_nil,hI0,hI1,hat1,hI2,hat2,hI3,hat3,Nat.add_mul];done))
    case i24_0=>(simpa using hL3)
    all_goals (first|omega|assumption|(simp;omega)|(simp_all;done))
   skip;obtain rfl:i3=t.length:=by omega
   have hI3:¬(t.length:Int)<(t.length:Int):=by omega
   rw [List.drop_length] at hL3;simp only [List.map_cons,List.map_nil,List.append_nil] at hL3;subst hL3;refine awN ?_;simp only [F43,seval,bh,hI0,hI1,hat1,hI2,hat2,hI3];repeat refine ob ?_
   refine awF ?_;refine awQ ?_;simp only [F43,seval];refine dL (t:=11) (by rfl) (by rfl) (by decide) (by rfl) ?_;simp only [F43,seval];refine awN ?_;simp only [F43,seval,bh,hI0,hI1,hat1,hI2,hat2,hI3];repeat refine ob ?_
   refine awN ?_;simp only [F43,seval,bh,hI0,hI1,hat1,hI2,hat2,hI3];repeat refine ob ?_
   repeat refine ob ?_
   refine ⟨_,bE H [1,2,3,37,38,39,7,8,44,45,46] [2001,2002,2003,2033,2076,2007,2008,2069] (by intro y B h;right;have h9:=hbH y B h;simp only [aj];(repeat rw [if_neg (by omega)]);exact h),a.length-(i2+1),by omega,i2+1,(ot++[clT t]),?a28_s6,?a28_nx,by omega,rfl,?i28_0,?i28_1,?st28⟩;case st28=>(simp only [F43,seval,ay,clT,bo,List.length_append,List.length_cons,List.length_nil,List.length_map,bh,hI0,hI1,hat1,hI2,hat2,hI3];first|rfl|(simp [ay,clT,bo,List.length_append,List.length_cons,List.length_nil,List.length_map,hI0,hI1,hat1,hI2,hat2,hI3,Nat.add_mul];done))
   case i28_0=>(simpa using hL2)
   all_goals (first|omega|assumption|(simp;omega)|(simp_all;done))
  skip;obtain rfl:i2=a.length:=by omega
  have hI2:¬(a.length:Int)<(a.length:Int):=by omega
  rw [List.drop_length] at hL2;simp only [List.map_cons,List.map_nil,List.append_nil] at hL2;subst hL2;refine awN ?_;simp only [F43,seval,bh,hI0,hI1,hat1,hI2];repeat refine ob ?_
  refine awF ?_;refine awQ ?_;simp only [F43,seval];refine ao 2069 2008 0 (by rfl) (by rfl) (by rfl) (by decide) (by show (1:Nat)≠0;decide) (by show (1:Nat)≠0;decide) rfl ?_;simp only [F43,seval];refine awN ?_;simp only [F43,seval,bh,hI0,hI1,hat1,hI2];repeat refine ob ?_
  refine awN ?_;simp only [F43,seval,bh,hI0,hI1,hat1,hI2];repeat refine ob ?_
  repeat refine ob ?_
  refine ⟨_,bE H [1,2,3,37,38,39] [2001,2002,2003,2033,2076] (by intro y B h;right;have h9:=hbH y B h;simp only [aj];(repeat rw [if_neg (by omega)]);exact h),e.agrs.length-(i1+1),by omega,i1+1,(oa++[clA a]),?a32_sa,?a32_nx,by omega,rfl,?i32_0,?i32_1,?st32⟩;case st32=>(simp only [F43,seval,ay,clA,aU,List.length_append,List.length_cons,List.length_nil,List.length_map,bh,hI0,hI1,hat1,hI2];first|rfl|(simp [ay,clA,aU,List.length_append,List.length_cons,List.length_nil,List.length_map,hI0,hI1,hat1,hI2,Nat.add_mul];done))
  case i32_0=>(simpa using hL1)
  all_goals (first|omega|assumption|(simp;omega)|(simp_all;done))
 skip;obtain rfl:i1=e.agrs.length:=by omega
 have hI1:¬(e.agrs.length:Int)<(e.agrs.length:Int):=by omega
 rw [List.drop_length] at hL1;simp only [List.map_cons,List.map_nil,List.append_nil] at hL1;subst hL1;refine awN ?_;simp only [F43,seval,bh,hI0,hI1];repeat refine ob ?_
 refine awF ?_;refine awQ ?_;simp only [F43,seval];refine ao 2076 2003 4 (by rfl) (by rfl) (by rfl) (by decide) (by show (1:Nat)≠0;decide) (by show (5:Nat)≠0;decide) rfl ?_;simp only [F43,seval];refine awN ?_;simp only [F43,seval,bh,hI0,hI1];repeat refine ob ?_
 refine aE H [2] [2033,2002] (by intro y B h;right;have h9:=hbH y B h;simp only [aj];(repeat rw [if_neg (by omega)]);exact h) ?_;simp only [F43,seval];refine awX ?_;simp only [F43,seval];refine ⟨s,ny+1,?_,?_⟩<;>simp only [List.length_map]
theorem JO {E:TypeId} {ps:List (GEst×Nat)} {H:Hp} (hbH:∀y B,H y=some B->y<200) {y:Nat} {B:Blk} (h:orT 103 E ps H y=some B):y<200∨y%1000=103:=by
 rcases vT h with ⟨a,r,rfl,_,_⟩|h8
 ·right;omega
 exact .inl (hbH y B h8)
theorem onG {E:TypeId} {ps:List (GEst×Nat)} {H f:Hp} (hbH:∀y B,H y=some B->y<200) (hf:∀x,(x<200∨x%1000=103)->f x=orT 103 E ps H x) (l:List Nat):∀x B,orT 103 E ps H x=some B->fI l x=true∨f x=some B:=fun x B hB=> .inr (by rw [hf x (JO hbH hB)];exact hB)
def F44:=And.intro zS (And.intro nN (And.intro KF (And.intro vd (And.intro u6 (And.intro xe (And.intro xf (And.intro tv (And.intro qO (And.intro zZ (And.intro tz (And.intro xg (And.intro zC (And.intro tC (And.intro xh (And.intro jS (And.intro Ad (And.intro z6 (And.intro z7 (xj)))))))))))))))))))
theorem F45:type_of%F44:=F44
theorem Kv (g:GGrp) (hg:cqG g) (H:Hp) (ny:Nat) (hbH:∀y B,H y=some B->y<200):dk prog 38 [.agg (au g)] H ny
  (fun res H' _=>∃ps s t,ps.map (·.1)=g.ests.map clE/\res= .val (.agg [.own 220 s g.ests.length 5,.sh 4 (g.debts.map clD).length (ar cn (g.debts.map clD))])/\H'=bW (orT 103 38 ps H) [(220,⟨s,36,5,g.ests.length,eRw (aR 103) ps 0⟩),(202,⟨t,28,2,1,[.own 220 s g.ests.length 5,.sh 4 (g.debts.map clD).length (ar cn (g.debts.map clD))]⟩)]):=by
 have hn1:=hg.1;have hn2:=hg.2.2.1;refine fm 200 func38 rfl (by decide) (N:=44) rfl (by simp) (Rl:=[.cell 2 28]) rfl fun en k0=>?_
 refine awN ?_;simp only [F45,seval,au];repeat refine ob ?_
 refine awN ?_;simp only [F45,seval,au];repeat refine ob ?_
 refine awN ?_;simp only [F45,seval,au,au];repeat refine ob ?_
 refine dE 203 0 220 _ 36 5 (by decide) (by rfl) (by decide) (by simp) (by rfl) ?_;refine aE H [1,2,3,9,10,11] [201,202,203,220] (by intro y B h;right;have h9:=hbH y B h;simp only [aj];(repeat rw [if_neg (by omega)]);exact h) ?_;try simp only [aq,F45,seval,au]
 repeat' first|apply awS|apply awB
 refine aB (fun n st=>∃k ps s nx,k<=g.ests.length/\n=g.ests.length-k/\ps.map (·.1)=(g.ests.take k).map clE/\st=⟨mkT [(1,.val (.one (.ptr 201 ny 0))),(2,.val (.one (.ptr 202 (ny+1) 0))),(3,.val (.one (.ptr 203 (ny+2) 0))),(9,.val (.one (.sh 5 g.ests.length (ar bh g.ests)))),(10,one (.int .i64 g.ests.length)),(11,one (.int .i64 k))],bW (orT 103 38 ps H) [(201,⟨ny,28,2,1,au g⟩),(202,⟨ny+1,28,2,1,[.lit (.slice none 0 0),.lit (.slice none 0 0)]⟩),(203,⟨ny+2,28,2,1,[.own 220 s k 5,.lit (.slice none 0 0)]⟩),(220,⟨s,36,5,k,eRw (aR 103) ps 0⟩)],nx,200⟩) (g.ests.length) ⟨0,[],_,_,by omega,by omega,by simp,by rw [KL];rfl⟩ ?_;rintro n0 st ⟨k,ps,s,nx0,hk,rfl,hps,rfl⟩;by_cases hlt0:(k:Int)<(g.ests.length:Int)
 ·refine awN ?_;simp only [F45,seval,au,hlt0];repeat refine ob ?_
  refine awT ?_;refine awK ?_;simp only [F45,seval];have hkl:k<g.ests.length:=by omega
  have hat:=aO de g.ests k hkl;obtain ⟨e,hXe⟩:∃e,g.ests[k]=e:=⟨_,rfl⟩;have hce9:cqE e:=hXe▸hg.2.1 _ (List.getElem_mem hkl);rw [hXe] at hat;have hpl:ps.length=k:=by have:=congrArg List.length hps;simp at this;omega
  have hrl:=kz (aR 103) ps 0;refine awN ?_;simp only [F45,seval,au,hlt0,hat,bh];repeat refine ob ?_
  repeat' first|apply awS|apply awB
  refine lI [18] (by kernel_rfl) (.cons 0 true (.cons 2 true (.two 1 3 (.cons 3 false (.cons 4 false (.cons 5 false (.cons 6 true (.cons 7 false .nil))))) (.cons 1 true (.cons 4 false (.cons 5 false (.cons 6 true (.cons 7 false .nil)))))))) (by kernel_rfl) (gs:=[none,none,none,none,none,none,none,none]) (by kernel_rfl) (by simp only [zT,seval];rfl) (by decide) ?_;simp only [F45,seval,au,hlt0,bh,hrl,hpl,(id SD)];repeat refine ob ?_
  refine ⟨?_,?_⟩
  ·repeat refine ob ?_
   refine ⟨_,Kd e hce9 _ _ (fun y B hB=>?_),?_⟩
   ·simp only [aj] at hB;repeat (split at hB;· omega)
    have:=JO hbH hB;omega
   rintro res H' nx' ⟨s1,t1,rfl,rfl⟩;simp only [F45,seval,(id SD),and_self,false_and];repeat refine ob ?_
   refine eO 2033 (1000*(k+1)+103) 220 (k*5+3) (by rfl) (by rfl) (by rw [←hpl];exact J3 ps _ _ _ _ _) (by decide) (by omega) (by show (5:Nat)≠0;decide) (by show (5:Nat)≠0;decide) rfl ?_;have hsn:=fun z x=>J2 ps (clE e,z) x
   rw [hpl] at hsn;simp only [clE,List.length_map] at hsn;refine awN ?_;simp only [F45,seval,au,hlt0];repeat refine ob ?_
   refine ⟨_,bE (orT 103 38 (ps++[(clE e,?zz8)]) H) [1,2,3,9,10,11] [201,202,203,220] ?pf8,g.ests.length-(k+1),by omega,k+1,ps++[(clE e,?zz8)],?ss8,?na8,by omega,rfl,?mp8,?st8⟩;case st8=>
    simp only [F45,seval,List.length_map];rw [hsn];try rfl
   case mp8=>rw [List.map_append,hps,List.take_succ_eq_append_getElem hkl,hXe,List.map_append];rfl
   case pf8=>
    intro y B h;right;rcases vT h with ⟨a,r,rfl,h2,rfl⟩|h8
    ·by_cases ha:a=k
     ·subst ha;rw [List.getElem?_append_right (by omega),hpl,Nat.sub_self] at h2;obtain rfl:=Option.some.inj h2;simp only [aj];rw [if_neg (by omega)];first|rw [if_pos rfl]|rw [if_pos trivial]
      simp [clE]
     have hak:a<k:=by have:=(List.getElem?_eq_some_iff.1 h2).1;simp at this;omega
     rw [List.getElem?_append_left (by omega)] at h2;simp only [aj];repeat rw [if_neg (by omega)]
     exact yZ (by decide) h2
    have h9:=hbH y B h8;simp only [aj];repeat rw [if_neg (by omega)]
    rw [xF (by omega)];exact h8
  repeat refine ob ?_
  refine ⟨_,Kd e hce9 _ _ (fun y B hB=>?_),?_⟩
  ·simp only [aj] at hB;repeat (split at hB;· omega)
   have:=JO hbH hB;omega
  rintro res H' nx' ⟨s1,t1,rfl,rfl⟩;simp only [F45,seval,(id SD),and_self,false_and];repeat refine ob ?_
  refine eO 2033 (1000*(k+1)+103) 220 (k*5+3) (by rfl) (by rfl) (by rw [←hpl];exact J3 ps _ _ _ _ _) (by decide) (by omega) (by show (5:Nat)≠0;decide) (by show (5:Nat)≠0;decide) rfl ?_;have hsn:=fun z x=>J2 ps (clE e,z) x
  rw [hpl] at hsn;simp only [clE,List.length_map] at hsn;refine awN ?_;simp only [F45,seval,au,hlt0];repeat refine ob ?_
  refine ⟨_,bE (orT 103 38 (ps++[(clE e,?zz10)]) H) [1,2,3,9,10,11] [201,202,203,220] ?pf10,g.ests.length-(k+1),by omega,k+1,ps++[(clE e,?zz10)],?ss10,?na10,by omega,rfl,?mp10,?st10⟩;case st10=>
   simp only [F45,seval,List.length_map];rw [hsn];try rfl
  case mp10=>rw [List.map_append,hps,List.take_succ_eq_append_getElem hkl,hXe,List.map_append];rfl
  case pf10=>
   intro y B h;right;rcases vT h with ⟨a,r,rfl,h2,rfl⟩|h8
   ·by_cases ha:a=k
    ·subst ha;rw [List.getElem?_append_right (by omega),hpl,Nat.sub_self] at h2;obtain rfl:=Option.some.inj h2;simp only [aj];rw [if_neg (by omega)];first|rw [if_pos rfl]|rw [if_pos trivial]
     simp [clE]
    have hak:a<k:=by have:=(List.getElem?_eq_some_iff.1 h2).1;simp at this;omega
    rw [List.getElem?_append_left (by omega)] at h2;simp only [aj];repeat rw [if_neg (by omega)]
    exact yZ (by decide) h2
   have h9:=hbH y B h8;simp only [aj];repeat rw [if_neg (by omega)]
   rw [xF (by omega)];exact h8
 refine awN ?_;simp only [F45,seval,au,hlt0];repeat refine ob ?_
 refine awF ?_;refine awQ ?_;simp only [F45,seval];refine awN ?_;simp only [F45,seval,au,hlt0,au];repeat refine ob ?_
 obtain rfl:k=g.ests.length:=by omega
 rw [List.take_length] at hps;refine dE 203 1 240 _ 42 4 (by decide) (by rfl) (by decide) (by simp) (by rfl) ?_;refine aE (orT 103 38 ps H) [1,2,3,24,25,26] [201,202,203,220,240] (onG hbH (fun x h=>by simp only [aj];repeat rw [if_neg (by omega)]) _) ?_;try simp only [aq,F45,seval,au,hlt0,ay,clD,cn,List.length_append,List.length_cons,List.length_nil]
 repeat' first|apply awS|apply awB
 refine aB (fun n st=>∃i1 od sd nx,i1<=g.debts.length/\n=g.debts.length-i1/\od++List.map clD (g.debts.drop i1)=[]++List.map clD g.debts/\od.length=i1/\st=⟨mkT [(1,.val (.one (.ptr 201 ny 0))),(2,.val (.one (.ptr 202 (ny+1) 0))),(3,.val (.one (.ptr 203 (ny+2) 0))),(24,.val (.one (.sh 4 g.debts.length (ar cn g.debts)))),(25,one (.int .i64 g.debts.length)),(26,one (.int .i64 i1))],bW (orT 103 38 ps H) [(201,⟨ny,28,2,1,au g⟩),(202,⟨ny+1,28,2,1,[.lit (.slice none 0 0),.lit (.slice none 0 0)]⟩),(203,⟨ny+2,28,2,1,[.own 220 s g.ests.length 5,.own 240 sd od.length 4]⟩),(220,⟨s,36,5,g.ests.length,eRw (aR 103) ps 0⟩),(240,⟨sd,42,4,od.length,ar cn od⟩)],nx,200⟩) (g.debts.length) ⟨0,[],_,_,by omega,by omega,by rfl,(by first|omega|assumption|rfl|simp|(simp;omega)),rfl⟩ ?_;rintro n1 st ⟨i1,od,sd,nx1,hk1,rfl,hL1,hV1_1,rfl⟩;by_cases hlt1:i1<g.debts.length
 ·have hI1:(i1:Int)<(g.debts.length:Int):=by omega
  have hat1:=aO dT g.debts i1 hlt1;try rw [Nat.mul_one] at hat1
  rw [List.drop_eq_getElem_cons hlt1] at hL1;have hdd:=hg.2.2.2 _ (List.getElem_mem hlt1);generalize g.debts[i1]=d at *
  simp only [List.map_cons,List.map_nil,List.append_nil] at hL1;refine awN ?_;simp only [F45,seval,au,hlt0,hI1,hat1];repeat refine ob ?_
  refine awT ?_;refine awK ?_;simp only [F45,seval];refine awN ?_;simp only [F45,seval,au,hlt0,hI1,hat1,cn];repeat refine ob ?_
  refine awD (scT 0 4 (scq [11,13,8,14,17,18,20,23,24] .nil)) [0,0,0,0,0,0,0,0,0,0,0,0,0] ?_;simp only [F45,seval,au,hlt0,hI1,hat1,cn,cS,ab mN];repeat refine ob ?_
  refine ⟨_,(JD d.whole hdd.1),(by first|rfl|simp [bu,aI,av,az,A1.cells,cS,ab mN]),?_⟩;try simp only [aq,F45,seval,au,hlt0,hI1,hat1,cn,cS,ab mN]
  repeat refine ob ?_
  refine ⟨_,(Ku d.legs hdd.2),(by first|rfl|simp [bu,aI,av,az,A1.cells,cS,ab mN]),?_⟩;try simp only [aq,F45,seval,au,hlt0,hI1,hat1,cn,cS,ab mN]
  repeat refine ob ?_
  refine awN ?_;simp only [F45,seval,au,hlt0,hI1,hat1];repeat refine ob ?_
  repeat refine ob ?_
  refine ⟨_,bE (orT 103 38 ps H) [1,2,3,24,25,26] [201,202,203,220,240] (onG hbH (fun x h=>by simp only [aj];repeat rw [if_neg (by omega)]) _),g.debts.length-(i1+1),by omega,i1+1,(od++[clD d]),?a16_sd,?a16_nx,by omega,rfl,?i16_0,?i16_1,?st16⟩;case st16=>(simp only [F45,seval,ay,clD,cn,List.length_append,List.length_cons,List.length_nil,au,hlt0,hI1,hat1];first|rfl|(simp [ay,clD,cn,List.length_append,List.length_cons,List.length_nil,hlt0,hI1,hat1,Nat.add_mul];done))
  case i16_0=>(simpa using hL1)
  all_goals (first|omega|assumption|(simp;omega)|(simp_all;done))
 obtain rfl:i1=g.debts.length:=by omega
 have hI1:¬(g.debts.length:Int)<(g.debts.length:Int):=by omega
 rw [List.drop_length] at hL1;simp only [List.map_cons,List.map_nil,List.append_nil] at hL1;subst hL1;refine awN ?_;simp only [F45,seval,au,hlt0,hI1];repeat refine ob ?_
 refine awF ?_;refine awQ ?_;simp only [F45,seval];refine ao 240 203 1 (by rfl) (by rfl) (by rfl) (by decide) (by show (4:Nat)≠0;decide) (by show (2:Nat)≠0;decide) rfl ?_;simp only [F45,seval];refine awN ?_;simp only [F45,seval,au,hlt0,hI1];repeat refine ob ?_
 refine aE (orT 103 38 ps H) [2] [220,202] (onG hbH (fun x h=>by simp only [aj];repeat rw [if_neg (by omega)]) _) ?_;simp only [F45,seval];refine awX ?_;simp only [F45,seval];exact ⟨ps,s,_,hps,rfl,rfl⟩
end Go.Proofs.YtcgpghifhehlhaaGreatDoor
