/- The reference's waterfall: sums, totals, ranks, tiers; walked by the abstract machine. -/
import Derived.Test.YtokmkopihhnggaaGreatDoorWs3M
import Derived.Test.YtokmkopihhnggaaGreatDoorWl6M
import Derived.Test.YtokmkopihhnggaaGreatDoorRw2M
import Derived.Test.YtokmkopihhnggaaGreatDoorWp8M
set_option linter.unusedVariables false
set_option maxHeartbeats 4000000
set_option maxRecDepth 100000
set_option linter.unusedSimpArgs false
set_option linter.defProp false
namespace Go.Proofs.YtokmkopihhnggaaGreatDoor
open Go Go.RowKit Go.Proofs.Tryz
theorem E4 (r:GRat) (m:Nat) (h:sB m r) (hm:m<=100000000000):aR prog 148 [.agg (ai r)] (.val (.agg (ai (enc (xy (qOf r)))))):=
 bj (ch func148 (by decide) (by kernel_rfl)) [aF r] (aF (enc (xy (qOf r)))) fun w=>xV r m w h hm
theorem z8 (r:GRat) (m:Nat) (h:sB m r) (hm:m<=100000000000):aR prog 116 [.agg (ai r)] (.val (.agg (ai (enc (qOf r))))):=I9 r (by have:=h.1;omega) (by have:=h.2;omega)
noncomputable def cRT (t:WT):List C:=[.sh 4 t.length (aA cWP t)]
theorem E5 (t:WT):(cRT t).length=1:=rfl
theorem bh:∀t:WT,al (cRT t)=true:=fun t=>by simp [cRT,al,ax,ab bB]
def wSm:WT->Rat->Rat
 |[],s=>s
 |p::t,s=>wSm t (s+p.2)
theorem DH:∀(t:WT) (s:Rat),wSm t s=s+av t
 |[],s=>by rw [wSm,av];grind
 |p::t,s=>by rw [wSm,av,DH t];grind
noncomputable def wTl:List GClaim->Rat->Rat
 |[],s=>s
 |c::l,s=>wTl l (s+qOf c.amount)
theorem DI:∀(l:List GClaim) (s:Rat),wTl l s=s+cn l
 |[],s=>by rw [wTl,cn];grind
 |c::l,s=>by rw [wTl,cn,DI l];grind
noncomputable def tW (r:Int) (l:List GClaim) (i:Nat) (out:WT):WT:=out++wRk r l i
theorem DJ (r:Int) (i:Nat) (out:WT):tW r [] i out=out:=by simp [tW,wRk]
theorem Bn (r:Int) (c:GClaim) (l:List GClaim) (i:Nat) (out:WT):tW r (c::l) i out=if c.rank=r then tW r l (i+1) (out++[((i:Int),qOf c.amount)]) else tW r l (i+1) out:=by
 unfold tW;rw [wRk];split<;>simp
theorem E6 (cs:List GClaim) (k:Nat) (hk:k<8):(aC cs).take (k+1)=(aC cs).take k++[wRk (k:Int) cs 0]:=by
 unfold aC;rw [←List.map_take,←List.map_take,List.take_range,List.take_range,show min (k+1) 8=k+1 by omega,show min k 8=k by omega,List.range_succ,List.map_append];rfl
theorem G1 (cs:List GClaim):(aC cs).take 8=aC cs:=List.take_of_length_le (by unfold aC;simp)
def F92:=And.intro zS (And.intro H7 (And.intro EA (And.intro H8 (And.intro cD (And.intro gH (dN))))))
theorem F93:type_of%F92:=F92
theorem G2 (t:WT) (K:Nat) (hl:t.length<=1000) (hK:∀p∈t,qB K p.2) (hKb:K<=10000000):aR prog 219 [.one (.sh 4 t.length (aA cWP t))] (.val (.agg (ai (enc (av t))))):=by
 refine aP func219 rfl (by decide) (N:=20) rfl (by simp) (R:=[.cell 2 32]) rfl fun en k0=>?_
 refine awN ?_;simp only [F93,seval,ai];refine awN ?_;simp only [F93,seval];refine awN ?_;simp only [F93,seval];have hV0:qB (1+0*(K+1)) 0:=bW.mono (by omega);refine cm (dz 3 (ai (enc 0)) (by rfl) (by show (3:Nat)≠0;decide) (by rfl) (fun κ vs h=>by rw [bf];exact h)) ?_;simp only [F93,seval];refine aQ [0,2,3,4] [2,3] ?_;try simp only [ak,F93,seval,ai]
 repeat' first|apply awS|apply awB
 refine aM (fun n st=>∃i0 s nx,i0<=t.length/\n=t.length-i0/\wSm (t.drop i0) s=wSm t 0/\qB (1+i0*(K+1)) s/\st=⟨mkT [(0,.val (.one (.sh 4 t.length (aA cWP t)))),(2,.val (.one (.ptr 2 0 0))),(3,.val (.one (.ptr 3 1 0))),(4,one (.int .i64 i0))],mkH [(2,⟨0,32,3,1,[.lit (.bool false),.lit (.string ay),.lit (.string ay)]⟩),(3,⟨1,32,3,1,ai (enc s)⟩)],nx,0⟩) (t.length) ⟨0,0,_,by omega,by omega,by rfl,(by first|omega|assumption|rfl|simp|(simp;omega)),rfl⟩ ?_;rintro n0 st ⟨i0,s,nx0,hk0,rfl,hL0,hV0_1,rfl⟩;by_cases hlt0:i0<t.length
 ·have hI0:(i0:Int)<(t.length:Int):=by omega
  have hat0:=aO og t i0 hlt0;try rw [Nat.mul_one] at hat0
  rw [List.drop_eq_getElem_cons hlt0] at hL0;have hpm:=(List.getElem_mem hlt0);have hnx:=(hV0_1.add (hK _ hpm)).mono (n:=1+(i0+1)*(K+1)) (by rw [Nat.succ_mul];omega);generalize t[i0]=p at *
  simp only [wSm] at hL0;refine awN ?_;simp only [F93,seval,ai,hI0];refine awT ?_;refine awK ?_;simp only [F93,seval];have hA:=l7 s p.2 _ K hV0_1 (hK _ hpm) (by have:=Nat.mul_le_mul (show i0<=1000 by omega) (show K+1<=10000001 by omega);omega) (by omega);simp only [ai] at hA;refine awD (scT 0 6 (scq [12,14] .nil)) [0,0,0,0,0,0,0,0] ?_;simp only [F93,seval,ai,hI0,hat0,cWP];repeat refine ob ?_
  refine ⟨_,hA,rfl,?_⟩;try simp only [ak,F93,seval]
  refine awN ?_;simp only [F93,seval];repeat refine ob ?_
  refine ⟨_,aI [0,2,3,4] [2,3],t.length-(i0+1),by omega,i0+1,(s+p.2),?a6_nx,by omega,rfl,?i6_0,?i6_1,?st6⟩;case st6=>(simp only [F93,seval];first|rfl|(simp [hI0,hat0,Nat.add_mul];done))
  case i6_0=>(first|exact hL0|(rw [←hL0];simp only [reduceIte,hI0,hat0];done)|(rw [←hL0];simp [hI0,hat0];done)|(simp [hI0,hat0] at hL0;simpa using hL0)|(rw [←hL0];simp [*];done))
  all_goals (first|omega|assumption|(simp;omega)|(simp_all;done))
 obtain rfl:i0=t.length:=by omega
 have hI0:¬(t.length:Int)<(t.length:Int):=by omega
 rw [List.drop_length] at hL0;simp only [wSm] at hL0;refine awN ?_;simp only [F93,seval,ai,hI0];refine awF ?_;refine awQ ?_;simp only [F93,seval];refine awN ?_;simp only [F93,seval];refine awX ?_;simp only [F93,seval];rw [DH,Rat.zero_add] at hL0;simp [←hL0]
def F94:=And.intro zS (And.intro vg (And.intro mN (And.intro vh (And.intro pq (And.intro pr (And.intro cD (And.intro gH (dN))))))))
theorem F95:type_of%F94:=F94
theorem DK (e:GEst) (K:Nat) (hl:e.claims.length<=1000) (ham:∀c∈e.claims,sB K c.amount) (hK0:0<K) (hKb:K<=10000000):aR prog 146 [.agg (aJ e)] (.val (.agg (ai (enc (cn e.claims))))):=by
 refine aP func146 rfl (by decide) (N:=23) rfl (by simp) (R:=[.cell 2 32]) rfl fun en k0=>?_
 refine awN ?_;simp only [F95,seval,ai,aJ];refine awN ?_;simp only [F95,seval];refine awN ?_;simp only [F95,seval];have hV0:qB (1+0*(K+1)) 0:=bW.mono (by omega);refine cm (dz 3 (ai (enc 0)) (by rfl) (by show (3:Nat)≠0;decide) (by rfl) (fun κ vs h=>by rw [bf];exact h)) ?_;simp only [F95,seval];refine aQ [1,2,3,4] [1,2,3] ?_;try simp only [ak,F95,seval,ai]
 repeat' first|apply awS|apply awB
 refine aM (fun n st=>∃i0 s nx,i0<=e.claims.length/\n=e.claims.length-i0/\wTl (e.claims.drop i0) s=wTl e.claims 0/\qB (1+i0*(K+1)) s/\st=⟨mkT [(1,.val (.one (.ptr 1 0 0))),(2,.val (.one (.ptr 2 1 0))),(3,.val (.one (.ptr 3 2 0))),(4,one (.int .i64 i0))],mkH [(1,⟨0,36,5,1,aJ e⟩),(2,⟨1,32,3,1,[.lit (.bool false),.lit (.string ay),.lit (.string ay)]⟩),(3,⟨2,32,3,1,ai (enc s)⟩)],nx,0⟩) (e.claims.length) ⟨0,0,_,by omega,by omega,by rfl,(by first|omega|assumption|rfl|simp|(simp;omega)),rfl⟩ ?_;rintro n0 st ⟨i0,s,nx0,hk0,rfl,hL0,hV0_1,rfl⟩;by_cases hlt0:i0<e.claims.length
 ·have hI0:(i0:Int)<(e.claims.length:Int):=by omega
  have hat0:=aO cK e.claims i0 hlt0;try rw [Nat.mul_one] at hat0
  rw [List.drop_eq_getElem_cons hlt0] at hL0;have hca:=ham _ (List.getElem_mem hlt0);have hnx:=(hV0_1.add (hca.qB hK0)).mono (n:=1+(i0+1)*(K+1)) (by rw [Nat.succ_mul];omega);generalize e.claims[i0]=c at *
  simp only [wTl] at hL0;refine awN ?_;simp only [F95,seval,ai,hI0,aJ];refine awT ?_;refine awK ?_;simp only [F95,seval];have hF:=z8 c.amount K hca (by omega);have hA:=l7 s (qOf c.amount) _ K hV0_1 (hca.qB hK0) (by have:=Nat.mul_le_mul (show i0<=1000 by omega) (show K+1<=10000001 by omega);omega) (by omega);simp only [ai] at hA hF;refine awD (scT 0 7 (scq [14,16,18] .nil)) [0,0,0,0,0,0,0,0,0,0] ?_;simp only [F95,seval,hI0,hat0,b0];repeat refine ob ?_
  refine ⟨_,hF,rfl,?_⟩;try simp only [ak,F95,seval]
  refine ⟨_,hA,rfl,?_⟩;try simp only [ak,F95,seval]
  refine awN ?_;simp only [F95,seval];repeat refine ob ?_
  refine ⟨_,aI [1,2,3,4] [1,2,3],e.claims.length-(i0+1),by omega,i0+1,(s+qOf c.amount),?a6_nx,by omega,rfl,?i6_0,?i6_1,?st6⟩;case st6=>(simp only [F95,seval];first|rfl|(simp [aJ,hI0,hat0,Nat.add_mul];done))
  case i6_0=>(first|exact hL0|(rw [←hL0];simp only [reduceIte,hI0,hat0];done)|(rw [←hL0];simp [hI0,hat0];done)|(simp [hI0,hat0] at hL0;simpa using hL0)|(rw [←hL0];simp [*];done))
  all_goals (first|omega|assumption|(simp;omega)|(simp_all;done))
 obtain rfl:i0=e.claims.length:=by omega
 have hI0:¬(e.claims.length:Int)<(e.claims.length:Int):=by omega
 rw [List.drop_length] at hL0;simp only [wTl] at hL0;refine awN ?_;simp only [F95,seval,ai,hI0,aJ];refine awF ?_;refine awQ ?_;simp only [F95,seval];refine awN ?_;simp only [F95,seval];refine awX ?_;simp only [F95,seval];rw [DI,Rat.zero_add] at hL0;simp [←hL0]
def F96:=And.intro zS (And.intro vg (And.intro Gp (And.intro mN (And.intro EA (And.intro Er (And.intro vh (And.intro pq (And.intro pr (And.intro cD (And.intro jz (And.intro H9 (And.intro Ia (Ib)))))))))))))
theorem F97:type_of%F96:=F96
theorem DL (e:GEst) (K:Nat) (hl:e.claims.length<=1000) (ham:∀c∈e.claims,sB K c.amount) (hKb:K<=10000000):aR prog 179 [.agg (aJ e)] (.val (.one (.sh 1 (aC e.claims).length (aA cRT (aC e.claims))))):=by
 refine aP func179 rfl (by decide) (N:=43) rfl (by simp) (R:=[.tmp 2]) rfl fun en k0=>?_
 refine awN ?_;simp only [F97,seval,aJ];refine awN ?_;simp only [F97,seval];refine awN ?_;simp only [F97,seval];refine gS 3 41 280 1 (by decide) (by rfl) ?_;simp only [F97,seval];refine aQ [1,3,4] [1,41] ?_;try simp only [ak,F97,seval]
 repeat' first|apply awS|apply awB
 refine aM (fun n st=>∃k sp nx,k<=8/\n=8-k/\st=⟨mkT [(1,.val (.one (.ptr 1 0 0))),(3,.val (.one (.own 41 sp k 1))),(4,one (.int .i64 k))],mkH [(1,⟨0,36,5,1,aJ e⟩),(41,⟨sp,280,1,k,aA cRT ((aC e.claims).take k)⟩)],nx,0⟩) (8) ⟨0,_,_,by omega,by omega,rfl⟩ ?_;rintro n0 st ⟨k,sp,nx0,hk,rfl,rfl⟩;by_cases hk8:(k:Int)<=7
 ·skip;refine awN ?_;simp only [F97,seval,hk8];refine awT ?_;refine awK ?_;simp only [F97,seval];refine awN ?_;simp only [F97,seval];refine awN ?_;simp only [F97,seval];refine gS 5 37 283 4 (by decide) (by rfl) ?_;simp only [F97,seval];refine aQ [1,3,4,5,6] [1,41,37] ?_;try simp only [ak,F97,seval,aJ]
  repeat' first|apply awS|apply awB
  refine aM (fun n st=>∃i0 out s5 nx,i0<=e.claims.length/\n=e.claims.length-i0/\tW (k:Int) (e.claims.drop i0) i0 out=tW (k:Int) e.claims 0 []/\out.length<=i0/\st=⟨mkT [(1,.val (.one (.ptr 1 0 0))),(3,.val (.one (.own 41 sp k 1))),(4,one (.int .i64 k)),(5,.val (.one (.own 37 s5 out.length 4))),(6,one (.int .i64 i0))],mkH [(1,⟨0,36,5,1,aJ e⟩),(41,⟨sp,280,1,k,aA cRT ((aC e.claims).take k)⟩),(37,⟨s5,283,4,out.length,aA cWP out⟩)],nx,0⟩) (e.claims.length) ⟨0,[],_,_,by omega,by omega,by rfl,(by first|omega|assumption|rfl|simp|(simp;omega)),rfl⟩ ?_;rintro n1 st ⟨i0,out,s5,nx1,hk1,rfl,hL1,hV1_1,rfl⟩;by_cases hlt1:i0<e.claims.length
  ·skip;have hI1:(i0:Int)<(e.claims.length:Int):=by omega
   have hat1:=aO cK e.claims i0 hlt1;try rw [Nat.mul_one] at hat1
   rw [List.drop_eq_getElem_cons hlt1] at hL1;have hca:=ham _ (List.getElem_mem hlt1);have hol:=hV1_1;generalize e.claims[i0]=c at *
   simp only [Bn] at hL1;refine awN ?_;simp only [F97,seval,hI1,aJ];refine awT ?_;refine awK ?_;simp only [F97,seval];by_cases hr:c.rank=(k:Int)
   ·skip;refine awN ?_;simp only [F97,seval,hI1,hat1,hr,b0];repeat refine ob ?_
    refine awT ?_;have hF:=z8 c.amount K hca (by omega);simp only [ai] at hF;refine awN ?_;simp only [F97,seval,hI1,hat1,hr,b0];repeat refine ob ?_
    refine ⟨_,hF,(by first|rfl|simp [aU,aD,al,ax,A1.cells,ab bh,ab bB]),?_⟩;try simp only [ak,F97,seval]
    repeat refine ob ?_
    refine awN ?_;simp only [F97,seval];repeat refine ob ?_
    refine ⟨_,aI [1,3,4,5,6] [1,41,37],e.claims.length-(i0+1),by omega,i0+1,(out++[((i0:Int),qOf c.amount)]),?a10_s5,?a10_nx,by omega,rfl,?i10_0,?i10_1,?st10⟩;case st10=>(simp only [F97,seval,a7,cWP,List.length_append,ai];first|rfl|(simp [aJ,a7,cWP,List.length_append,List.length_cons,List.length_nil,hk8,hI1,hat1,hr,Nat.add_mul];done))
    case i10_0=>(first|exact hL1|(rw [←hL1];simp only [reduceIte,hr];done)|(rw [←hL1];simp [hk8,hI1,hat1,hr];done)|(simp [hk8,hI1,hat1,hr] at hL1;simpa using hL1)|(rw [←hL1];simp [*];done))
    all_goals (first|omega|assumption|(simp;omega)|(simp_all;done))
   skip;refine awN ?_;simp only [F97,seval,hI1,hat1,hr,b0];repeat refine ob ?_
   refine awF ?_;refine awK ?_;simp only [F97,seval];refine awN ?_;simp only [F97,seval];repeat refine ob ?_
   refine ⟨_,aI [1,3,4,5,6] [1,41,37],e.claims.length-(i0+1),by omega,i0+1,?a13_out,?a13_s5,?a13_nx,by omega,rfl,?i13_0,?i13_1,?st13⟩;case st13=>(simp only [F97,seval];first|rfl|(simp [aJ,a7,cWP,List.length_append,List.length_cons,List.length_nil,hk8,hI1,hat1,hr,Nat.add_mul];done))
   case i13_0=>(first|exact hL1|(rw [←hL1];simp only [reduceIte,hr];done)|(rw [←hL1];simp [hk8,hI1,hat1,hr];done)|(simp [hk8,hI1,hat1,hr] at hL1;simpa using hL1)|(rw [←hL1];simp [*];done))
   all_goals (first|omega|assumption|(simp;omega)|(simp_all;done))
  skip;obtain rfl:i0=e.claims.length:=by omega
  have hI1:¬(e.claims.length:Int)<(e.claims.length:Int):=by omega
  rw [List.drop_length] at hL1;simp only [DJ] at hL1;refine awN ?_;simp only [F97,seval,hI1,aJ];refine awF ?_;refine awQ ?_;simp only [F97,seval];have hlen:out.length<=1000:=by omega
  refine gT (t:=5) (by rfl) (by rfl) (by decide) (by rfl) ?_;simp only [F97,seval];have hout:wRk (k:Int) e.claims 0=out:=by rw [hL1];simp [tW]
  refine awN ?_;simp only [F97,seval];repeat refine ob ?_
  refine awN ?_;simp only [F97,seval];repeat refine ob ?_
  refine ⟨_,aI [1,3,4] [1,41],8-(k+1),by omega,k+1,?_,?_,by omega,rfl,?_⟩;rotate_left 2
  have hrk8:aA cRT ((aC e.claims).take (k+1))=aA cRT ((aC e.claims).take k)++cRT out:=by rw [E6 e.claims k (by omega),hout,a7]
  (simp only [F97,seval,hrk8,cRT];first|rfl|(simp;done))
 skip;refine awN ?_;simp only [F97,seval,hk8];refine awF ?_;refine awQ ?_;simp only [F97,seval];have hk9:k=8:=by omega
 refine gT (t:=3) (by rfl) (by rfl) (by decide) (by rfl) ?_;simp only [F97,seval];refine awN ?_;simp only [F97,seval];refine awX ?_;simp only [F97,seval];rw [hk9,G1];simp [dI,ab bh]
theorem E7 {a b:Rat} (h:a<b):bC a b=a:=by unfold bC;rw [if_neg (by grind)]
theorem E8 {a b:Rat} (h:¬a<b):bC a b=b:=by
 unfold bC;split
 ·rfl
 grind
def rLs (a:bR) (rest:List Rat):List GClaim->Nat->WT->WT
 |[],_,la=>la
 |_::l,i,la=>if mbA (i:Int) a=true then rLs a rest l (i+1) (la++[((i:Int),rest.getD i 0)]) else rLs a rest l (i+1) la
theorem yn (a:bR) (rest:List Rat):∀(l:List GClaim) (i:Nat) (la:WT),rLs a rest l i la=la++dG (rMs a l.length i) rest
 |[],i,la=>by simp [rLs,rMs,dG]
 |c::l,i,la=>by
  rw [rLs,List.length_cons,rMs,yn a rest l,yn a rest l];split
  ·rw [qf,Int.toNat_natCast,List.append_assoc];rfl
  rfl
def F98:=And.intro zS (And.intro tf1 (And.intro vg (And.intro tf6 (And.intro pt (And.intro tf2 (And.intro Gp (And.intro mN (And.intro tf0 (And.intro ll (And.intro EA (And.intro tf8 (And.intro vh (And.intro pq (And.intro tf9 (And.intro Ep (And.intro CF (And.intro xE (And.intro pr (And.intro tf3 (And.intro vi (And.intro AU (And.intro cD (And.intro tu (And.intro jz (And.intro H9 (And.intro Ia (And.intro tf5 (And.intro dN (Ib)))))))))))))))))))))))))))))
theorem F99:type_of%F98:=F98
theorem DM (e:GEst) (a:bR) (K Km:Nat) (hB:layB e.claims a K Km):aR prog 184 [.agg (aJ e),.agg (bu a)] (.val (.one (.sh 1 (aV e.claims a).2.length (aA cRT (aV e.claims a).2)))):=by
 have hK0:=hB.k0;have hKm:=hB.km;have hKb:=hB.kb;have hn:=hB.n;have htn:=hB.tn;have hin:∀t∈a,∀x∈t,inR e.claims.length x.claim:=fun t ht x hx=>((hB.pn t ht).2 x hx).1
 refine aP func184 rfl (by decide) (N:=129) rfl (by simp) (R:=[.tmp 4]) rfl fun en k0=>?_
 refine awN ?_;simp only [F99,seval,aJ,bu];refine awN ?_;simp only [F99,seval];refine awN ?_;simp only [F99,seval,ja];repeat refine ob ?_
 refine awN ?_;simp only [F99,seval];refine aQ [2,3,5,6,7] [2,3,18] ?_;try simp only [ak,F99,seval]
 repeat' first|apply awS|apply awB
 refine aM (fun n st=>∃i0 out nx,i0<=e.claims.length/\n=e.claims.length-i0/\out++List.map (fun c=>qOf c.amount) (e.claims.drop i0)=[]++List.map (fun c=>qOf c.amount) e.claims/\out.length=i0/\st=⟨mkT [(2,.val (.one (.ptr 2 0 0))),(3,.val (.one (.ptr 3 1 0))),(5,one (.slice none 0 0)),(6,.val (.one (.own 18 2 e.claims.length 3))),(7,one (.int .i64 i0))],mkH [(2,⟨0,36,5,1,aJ e⟩),(3,⟨1,50,1,1,bu a⟩),(18,⟨2,32,3,e.claims.length,aA cQ (out++List.replicate (e.claims.length-i0) 0)⟩)],nx,0⟩) (e.claims.length) ⟨0,[],_,by omega,by omega,by rfl,(by first|omega|assumption|rfl|simp|(simp;omega)),rfl⟩ ?_;rintro n0 st ⟨i0,out,nx0,hk0,rfl,hL0,hV0_1,rfl⟩;by_cases hlt0:i0<e.claims.length
 ·have hI0:(i0:Int)<(e.claims.length:Int):=by omega
  have hat0:=aO cK e.claims i0 hlt0;try rw [Nat.mul_one] at hat0
  rw [List.drop_eq_getElem_cons hlt0] at hL0;have hca:=hB.am _ (List.getElem_mem hlt0);generalize e.claims[i0]=c at *
  simp only [List.map_cons] at hL0;refine awN ?_;simp only [F99,seval,hI0,aJ];refine awT ?_;refine awK ?_;simp only [F99,seval];have hF:=z8 c.amount K hca (by omega);simp only [ai] at hF;have hXl:(out++List.replicate (e.claims.length-i0) 0).length=e.claims.length:=by simp;omega
  have hset:=dP bH (out++List.replicate (e.claims.length-i0) 0) i0 (qOf c.amount) (by omega);have hXs:(out++List.replicate (e.claims.length-i0) 0).set i0 (qOf c.amount)=out++[qOf c.amount]++List.replicate (e.claims.length-(i0+1)) 0:=by
   rw [List.set_append_right _ _ (by omega),hV0_1,Nat.sub_self,show e.claims.length-i0=(e.claims.length-(i0+1))+1 by omega,List.replicate_succ,List.set_cons_zero,List.append_assoc];try rfl
  rw [hXs] at hset;have hfl:=bo bH (out++List.replicate (e.claims.length-i0) 0);rw [hXl] at hfl;simp only [cQ,ai] at hset;refine awN ?_;simp only [F99,seval,hI0,hat0,b0];repeat refine ob ?_
  refine ⟨_,hF,(by first|rfl|simp [aU,aD,al,ax,A1.cells,ab bh,ab bB]),?_⟩;try simp only [ak,F99,seval,hI0,hset,hfl]
  repeat refine ob ?_
  refine awN ?_;simp only [F99,seval];repeat refine ob ?_
  refine ⟨_,aI [2,3,5,6,7] [2,3,18],e.claims.length-(i0+1),by omega,i0+1,(out++[qOf c.amount]),?a7_nx,by omega,rfl,?i7_0,?i7_1,?st7⟩;case st7=>(simp only [F99,seval,bu];first|rfl|(simp [aJ,bu,hI0,hat0,Nat.add_mul];done))
  case i7_0=>(simpa using hL0)
  all_goals (first|omega|assumption|(simp;omega)|(simp_all;done))
 obtain rfl:i0=e.claims.length:=by omega
 have hI0:¬(e.claims.length:Int)<(e.claims.length:Int):=by omega
 rw [List.drop_length] at hL0;simp only [List.map_nil,List.append_nil] at hL0;subst hL0;refine awN ?_;simp only [F99,seval,hI0,aJ];refine awF ?_;refine awQ ?_;simp only [F99,seval];refine awN ?_;simp only [F99,seval];refine gS 5 105 280 1 (by decide) (by rfl) ?_;have hV1a:∀y∈(e.claims.map fun c=>qOf c.amount),qB (K+0*(K+1)) y:=fun y hy=>by
  obtain ⟨c,h1,rfl⟩:=List.mem_map.1 hy;exact ((hB.am c h1).qB hK0).mono (by omega)
 have hrl:∀l:List Rat,l++List.replicate (e.claims.length-e.claims.length) 0=l:=fun l=>by simp
 simp only [F99,seval,hrl];refine aQ [2,3,5,6,8] [2,3,18,105] ?_;try simp only [ak,F99,seval,bu]
 repeat' first|apply awS|apply awB
 refine aM (fun n st=>∃i1 out rest w s5 nx,i1<=a.length/\n=a.length-i1/\lyS out (a.drop i1) rest=lyS [] a (e.claims.map fun c:GClaim=>qOf c.amount)/\out.length=i1/\rest.length=e.claims.length/\(∀y∈rest,qB (K+w*(K+1)) y)/\w+pN (a.drop i1)=pN a/\st=⟨mkT [(2,.val (.one (.ptr 2 0 0))),(3,.val (.one (.ptr 3 1 0))),(5,.val (.one (.own 105 s5 out.length 1))),(6,.val (.one (.own 18 2 e.claims.length 3))),(8,one (.int .i64 i1))],mkH [(2,⟨0,36,5,1,aJ e⟩),(3,⟨1,50,1,1,bu a⟩),(18,⟨2,32,3,e.claims.length,aA cQ rest⟩),(105,⟨s5,280,1,out.length,aA cRT out⟩)],nx,0⟩) (a.length) ⟨0,[],(e.claims.map fun c:GClaim=>qOf c.amount),0,_,_,by omega,by omega,by rfl,(by first|omega|assumption|rfl|simp|(simp;omega)),(by first|omega|assumption|rfl|simp|(simp;omega)),(by first|omega|assumption|rfl|simp|(simp;omega)),(by first|omega|assumption|rfl|simp|(simp;omega)),rfl⟩ ?_;rintro n1 st ⟨i1,out,rest,w,s5,nx1,hk1,rfl,hL1,hV1_1,hV1_2,hV1_3,hV1_4,rfl⟩;by_cases hlt1:i1<a.length
 ·have hI1:(i1:Int)<(a.length:Int):=by omega
  have hat1:=aO eA a i1 hlt1;try rw [Nat.mul_one] at hat1
  rw [List.drop_eq_getElem_cons hlt1] at hL1;have hpt:=hB.pn _ (List.getElem_mem hlt1);have hR1n:=hV1_2;have hR1:=hV1_3;have hw0:=hV1_4;rw [List.drop_eq_getElem_cons hlt1] at hw0;simp only [pN] at hw0;have hmw:(w+(a[i1]).length)*(K+1)=w*(K+1)+(a[i1]).length*(K+1):=Nat.add_mul _ _ _;have hm1:(w+(a[i1]).length)*(K+1)<=pN a*(K+1):=Nat.mul_le_mul_right _ (by omega);generalize a[i1]=t at *
  simp only [v7] at hL1;refine awN ?_;simp only [F99,seval,hI1,bu];refine awT ?_;refine awK ?_;simp only [F99,seval];refine awN ?_;simp only [F99,seval];refine awN ?_;simp only [F99,seval];refine gS 9 101 283 4 (by decide) (by rfl) ?_;simp only [F99,seval];have hV2a:∀y∈rest,qB (K+w*(K+1)+0*(K+1)) y:=fun y hy=>(hR1 y hy).mono (by omega)
  refine aQ [2,3,5,6,8,9,10] [2,3,18,105,101] ?_;try simp only [ak,F99,seval,aJ]
  repeat' first|apply awS|apply awB
  refine aM (fun n st=>∃i2 tr rest2 s9 nx,i2<=t.length/\n=t.length-i2/\lyT tr (t.drop i2) rest2=lyT [] t rest/\tr.length=i2/\rest2.length=e.claims.length/\(∀y∈rest2,qB (K+w*(K+1)+i2*(K+1)) y)/\(∀p∈tr,qB Km p.2)/\st=⟨mkT [(2,.val (.one (.ptr 2 0 0))),(3,.val (.one (.ptr 3 1 0))),(5,.val (.one (.own 105 s5 out.length 1))),(6,.val (.one (.own 18 2 e.claims.length 3))),(8,one (.int .i64 i1)),(9,.val (.one (.own 101 s9 tr.length 4))),(10,one (.int .i64 i2))],mkH [(2,⟨0,36,5,1,aJ e⟩),(3,⟨1,50,1,1,bu a⟩),(18,⟨2,32,3,e.claims.length,aA cQ rest2⟩),(105,⟨s5,280,1,out.length,aA cRT out⟩),(101,⟨s9,283,4,tr.length,aA cWP tr⟩)],nx,0⟩) (t.length) ⟨0,[],rest,_,_,by omega,by omega,by rfl,(by first|omega|assumption|rfl|simp|(simp;omega)),(by first|omega|assumption|rfl|simp|(simp;omega)),(by first|omega|assumption|rfl|simp|(simp;omega)),(by first|omega|assumption|rfl|simp|(simp;omega)),rfl⟩ ?_;rintro n2 st ⟨i2,tr,rest2,s9,nx2,hk2,rfl,hL2,hV2_1,hV2_2,hV2_3,hV2_4,rfl⟩;by_cases hlt2:i2<t.length
  ·have hI2:(i2:Int)<(t.length:Int):=by omega
   have hat2:=aO eX t i2 hlt2;try rw [Nat.mul_one] at hat2
   rw [List.drop_eq_getElem_cons hlt2] at hL2;have hxx:=hpt.2 _ (List.getElem_mem hlt2);have hxc:=hxx.1;have hxs:=hxx.2;have htl:=hV2_1;have hRn:=hV2_2;have hR2:=hV2_3;have hTq:=hV2_4;have hmul:(i2+1)*(K+1)<=t.length*(K+1):=Nat.mul_le_mul_right _ hlt2;have hmul1:(i2+1)*(K+1)=i2*(K+1)+(K+1):=Nat.succ_mul _ _;have hcm: -1<=(t[i2]).claim/\(t[i2]).claim<=1000000:=by rcases hxc with h|h<;>omega
   generalize t[i2]=x at *
   simp only [v6] at hL2;refine awN ?_;simp only [F99,seval,hI1,hat1,hI2,bu,bD];repeat refine ob ?_
   refine awT ?_;refine awK ?_;simp only [F99,seval];refine awN ?_;simp only [F99,seval,hI1,hat1,hI2,hat2,bD,bT];repeat refine ob ?_
   have hF:=z8 x.cap K hxs (by omega);simp only [ai] at hF;refine awN ?_;simp only [F99,seval];refine ⟨_,hF,(by first|rfl|simp [aU,aD,al,ax,A1.cells,ab bh,ab bB]),?_⟩;try simp only [ak,F99,seval]
   by_cases hc:x.claim= -1
   ·refine awN ?_;simp only [F99,seval,hc];refine awF ?_;refine awK ?_;simp only [F99,seval];have hwp:cp rest2 x=(rest2,qOf x.cap):=by unfold cp;rw [if_pos hc]
    have hnT:∀p∈tr++[(x.claim,qOf x.cap)],qB Km p.2:=fun p hp=>by
     rcases List.mem_append.1 hp with h|h
     ·exact hTq p h
     simp only [List.mem_singleton] at h;subst h;exact (hxs.qB hK0).mono (by omega)
    have hnR:∀y∈rest2,qB (K+w*(K+1)+(i2+1)*(K+1)) y:=fun y hy=>(hR2 y hy).mono (by omega)
    refine awN ?_;simp only [F99,seval];repeat refine ob ?_
    refine awN ?_;simp only [F99,seval];repeat refine ob ?_
    refine ⟨_,aI [2,3,5,6,8,9,10] [2,3,18,105,101],t.length-(i2+1),by omega,i2+1,(tr++[(x.claim,qOf x.cap)]),(rest2),?a19_s9,?a19_nx,by omega,rfl,?i19_0,?i19_1,?i19_2,?i19_3,?i19_4,?st19⟩;case st19=>(simp only [F99,seval,aJ,a7,cWP,List.length_append,ai,hc];first|rfl|(simp [aJ,bu,a7,cWP,List.length_append,List.length_cons,List.length_nil,hI0,hI1,hat1,hI2,hat2,hc,Nat.add_mul];done))
    case i19_0=>(rw [←hL2,hwp])
    all_goals (first|omega|assumption|(simp;omega)|(simp_all;done))
   refine awN ?_;simp only [F99,seval,hc];obtain ⟨k,hxk⟩:∃k:Nat,x.claim=(k:Int):=⟨x.claim.toNat,by rcases hxc with h|h<;>omega⟩;have hkl:k<rest2.length:=by rcases hxc with h|h<;>omega
   have hkt:x.claim.toNat=k:=by omega
   have hatk:=aO bH rest2 k hkl;have hgk:rest2.getD x.claim.toNat 0=rest2[k]:=by rw [hxk,Int.toNat_natCast,List.getD_eq_getElem?_getD,List.getElem?_eq_getElem hkl];rfl
   have hgB:=hR2 _ (List.getElem_mem hkl);simp only [cQ,ai] at hatk;have hfl:=bo bH rest2;rw [hRn] at hfl;have hLs:=zj rest2[k] (qOf x.cap) _ K hgB (hxs.qB hK0) (by omega) (by omega);simp only [ai] at hLs;refine awT ?_;by_cases hcap:x.capped=true
   ·by_cases hlt:rest2[k]<qOf x.cap
    ·have hLt:decide (rest2[k]<qOf x.cap)=true:=decide_eq_true hlt;refine awD (scT 0 10 (scq [20,23] .nil)) [0,0,0,0,142,142,142,142,142,142,142,0] ?_;simp only [F99,seval,hcap,hatk,hfl,hkt];repeat refine ob ?_
     refine ⟨_,hLs,(by first|rfl|simp [aU,aD,al,ax,A1.cells,ab bh,ab bB]),?_⟩;try simp only [ak,F99,seval,hlt]
     refine awT ?_;refine awN ?_;simp only [F99,seval,hatk,hfl,hkt];repeat refine ob ?_
     obtain ⟨hPB1,hPB2⟩:=kp hR2 (hxs.qB hK0) (by omega) (by omega);have hwp:cp rest2 x=(rest2.set k (rest2[k]-rest2[k]),rest2[k]):=by unfold cp;rw [if_neg hc,hgk,hxk,Int.toNat_natCast];simp only [hcap,if_true,E7 hlt]
     rw [hwp] at hPB1 hPB2;simp only at hPB1 hPB2;have hSub:=pC rest2[k] (rest2[k]) _ _ hgB hPB2 (by omega) (by omega);simp only [ai] at hSub;have hset:=dP bH rest2 k (rest2[k]-rest2[k]) hkl;simp only [cQ,ai] at hset;have hq9:qB Km (rest2[k]):=hPB2.mono (by omega);have hnT:∀p∈tr++[(x.claim,rest2[k])],qB Km p.2:=fun p hp=>by
      rcases List.mem_append.1 hp with h|h
      ·exact hTq p h
      simp only [List.mem_singleton] at h;subst h;exact hq9
     have hnR:∀y∈rest2.set k (rest2[k]-rest2[k]),qB (K+w*(K+1)+(i2+1)*(K+1)) y:=fun y hy=>(hPB1 y hy).mono (by omega)
     have hnl:(rest2.set k (rest2[k]-rest2[k])).length=e.claims.length:=by rw [List.length_set];exact hRn
     refine awD (scT 0 9 (scq [18,21,22] .nil)) [0,0,0,0,0,0,0,0,0,0,0,0] ?_;simp only [F99,seval,hatk,hfl,hkt];repeat refine ob ?_
     refine ⟨_,hSub,(by first|rfl|simp [aU,aD,al,ax,A1.cells,ab bh,ab bB]),?_⟩;try simp only [ak,F99,seval,hfl,hset,hkt]
     repeat refine ob ?_
     refine awN ?_;simp only [F99,seval];repeat refine ob ?_
     refine awN ?_;simp only [F99,seval];repeat refine ob ?_
     refine ⟨_,aI [2,3,5,6,8,9,10] [2,3,18,105,101],t.length-(i2+1),by omega,i2+1,(tr++[(x.claim,rest2[k])]),(rest2.set k (rest2[k]-rest2[k])),?a26_s9,?a26_nx,by omega,rfl,?i26_0,?i26_1,?i26_2,?i26_3,?i26_4,?st26⟩;case st26=>(simp only [F99,seval,aJ,a7,cWP,List.length_append,ai];first|rfl|(simp [aJ,bu,a7,cWP,List.length_append,List.length_cons,List.length_nil,hI0,hI1,hat1,hI2,hat2,hc,hcap,hlt,hLt,Nat.add_mul];done))
     case i26_0=>(rw [←hL2,hwp])
     all_goals (first|omega|assumption|(simp;omega)|(simp_all;done))
    have hLt:decide (rest2[k]<qOf x.cap)=false:=decide_eq_false hlt;refine awD (scT 0 10 (scq [20,23] .nil)) [0,0,0,0,142,142,142,142,142,142,142,0] ?_;simp only [F99,seval,hcap,hatk,hfl,hkt];repeat refine ob ?_
    refine ⟨_,hLs,(by first|rfl|simp [aU,aD,al,ax,A1.cells,ab bh,ab bB]),?_⟩;try simp only [ak,F99,seval,hlt]
    refine awF ?_;refine awK ?_;simp only [F99,seval];obtain ⟨hPB1,hPB2⟩:=kp hR2 (hxs.qB hK0) (by omega) (by omega);have hwp:cp rest2 x=(rest2.set k (rest2[k]-qOf x.cap),qOf x.cap):=by unfold cp;rw [if_neg hc,hgk,hxk,Int.toNat_natCast];simp only [hcap,if_true,E8 hlt]
    rw [hwp] at hPB1 hPB2;simp only at hPB1 hPB2;have hSub:=pC rest2[k] (qOf x.cap) _ _ hgB hPB2 (by omega) (by omega);simp only [ai] at hSub;have hset:=dP bH rest2 k (rest2[k]-qOf x.cap) hkl;simp only [cQ,ai] at hset;have hq9:qB Km (qOf x.cap):=hPB2.mono (by omega);have hnT:∀p∈tr++[(x.claim,qOf x.cap)],qB Km p.2:=fun p hp=>by
     rcases List.mem_append.1 hp with h|h
     ·exact hTq p h
     simp only [List.mem_singleton] at h;subst h;exact hq9
    have hnR:∀y∈rest2.set k (rest2[k]-qOf x.cap),qB (K+w*(K+1)+(i2+1)*(K+1)) y:=fun y hy=>(hPB1 y hy).mono (by omega)
    have hnl:(rest2.set k (rest2[k]-qOf x.cap)).length=e.claims.length:=by rw [List.length_set];exact hRn
    refine awD (scT 0 9 (scq [18,21,22] .nil)) [0,0,0,0,0,0,0,0,0,0,0,0] ?_;simp only [F99,seval,hatk,hfl,hkt];repeat refine ob ?_
    refine ⟨_,hSub,(by first|rfl|simp [aU,aD,al,ax,A1.cells,ab bh,ab bB]),?_⟩;try simp only [ak,F99,seval,hfl,hset,hkt]
    repeat refine ob ?_
    refine awN ?_;simp only [F99,seval];repeat refine ob ?_
    refine awN ?_;simp only [F99,seval];repeat refine ob ?_
    refine ⟨_,aI [2,3,5,6,8,9,10] [2,3,18,105,101],t.length-(i2+1),by omega,i2+1,(tr++[(x.claim,qOf x.cap)]),(rest2.set k (rest2[k]-qOf x.cap)),?a31_s9,?a31_nx,by omega,rfl,?i31_0,?i31_1,?i31_2,?i31_3,?i31_4,?st31⟩;case st31=>(simp only [F99,seval,aJ,a7,cWP,List.length_append,ai];first|rfl|(simp [aJ,bu,a7,cWP,List.length_append,List.length_cons,List.length_nil,hI0,hI1,hat1,hI2,hat2,hc,hcap,hlt,hLt,Nat.add_mul];done))
    case i31_0=>(rw [←hL2,hwp])
    all_goals (first|omega|assumption|(simp;omega)|(simp_all;done))
   refine awD (scT 0 10 (scq [20,23] .nil)) [0,0,0,0,142,142,142,142,142,142,142,0] ?_;simp only [F99,seval,hcap];refine awT ?_;refine awN ?_;simp only [F99,seval,hatk,hfl,hkt];repeat refine ob ?_
   obtain ⟨hPB1,hPB2⟩:=kp hR2 (hxs.qB hK0) (by omega) (by omega);have hwp:cp rest2 x=(rest2.set k (rest2[k]-rest2[k]),rest2[k]):=by unfold cp;rw [if_neg hc,hgk,hxk,Int.toNat_natCast];simp only [hcap,if_false,Bool.false_eq_true]
   rw [hwp] at hPB1 hPB2;simp only at hPB1 hPB2;have hSub:=pC rest2[k] (rest2[k]) _ _ hgB hPB2 (by omega) (by omega);simp only [ai] at hSub;have hset:=dP bH rest2 k (rest2[k]-rest2[k]) hkl;simp only [cQ,ai] at hset;have hq9:qB Km (rest2[k]):=hPB2.mono (by omega);have hnT:∀p∈tr++[(x.claim,rest2[k])],qB Km p.2:=fun p hp=>by
    rcases List.mem_append.1 hp with h|h
    ·exact hTq p h
    simp only [List.mem_singleton] at h;subst h;exact hq9
   have hnR:∀y∈rest2.set k (rest2[k]-rest2[k]),qB (K+w*(K+1)+(i2+1)*(K+1)) y:=fun y hy=>(hPB1 y hy).mono (by omega)
   have hnl:(rest2.set k (rest2[k]-rest2[k])).length=e.claims.length:=by rw [List.length_set];exact hRn
   refine awD (scT 0 9 (scq [18,21,22] .nil)) [0,0,0,0,0,0,0,0,0,0,0,0] ?_;simp only [F99,seval,hatk,hfl,hkt];repeat refine ob ?_
   refine ⟨_,hSub,(by first|rfl|simp [aU,aD,al,ax,A1.cells,ab bh,ab bB]),?_⟩;try simp only [ak,F99,seval,hfl,hset,hkt]
   repeat refine ob ?_
   refine awN ?_;simp only [F99,seval];repeat refine ob ?_
   refine awN ?_;simp only [F99,seval];repeat refine ob ?_
   refine ⟨_,aI [2,3,5,6,8,9,10] [2,3,18,105,101],t.length-(i2+1),by omega,i2+1,(tr++[(x.claim,rest2[k])]),(rest2.set k (rest2[k]-rest2[k])),?a37_s9,?a37_nx,by omega,rfl,?i37_0,?i37_1,?i37_2,?i37_3,?i37_4,?st37⟩;case st37=>(simp only [F99,seval,aJ,a7,cWP,List.length_append,ai];first|rfl|(simp [aJ,bu,a7,cWP,List.length_append,List.length_cons,List.length_nil,hI0,hI1,hat1,hI2,hat2,hc,hcap,Nat.add_mul];done))
   case i37_0=>(rw [←hL2,hwp])
   all_goals (first|omega|assumption|(simp;omega)|(simp_all;done))
  obtain rfl:i2=t.length:=by omega
  have hI2:¬(t.length:Int)<(t.length:Int):=by omega
  rw [List.drop_length] at hL2;simp only [zE] at hL2;have hwt:b8 t rest=(rest2,tr):=by
   have h:=hL2;simp only [lyT,List.nil_append] at h;rw [Prod.ext_iff] at h;exact Prod.ext h.2.symm h.1.symm
  have hV2e:∀y∈rest2,qB (K+(w+t.length)*(K+1)) y:=fun y hy=>(hV2_3 y hy).mono (by omega)
  refine awN ?_;simp only [F99,seval,hI1,hat1,hI2,bu,bD];repeat refine ob ?_
  refine awF ?_;refine awQ ?_;simp only [F99,seval];refine gT (t:=9) (by rfl) (by rfl) (by decide) (by rfl) ?_;simp only [F99,seval];refine awN ?_;simp only [F99,seval];repeat refine ob ?_
  refine awN ?_;simp only [F99,seval];repeat refine ob ?_
  refine ⟨_,aI [2,3,5,6,8] [2,3,18,105],a.length-(i1+1),by omega,i1+1,(out++[tr]),(rest2),(w+t.length),?a41_s5,?a41_nx,by omega,rfl,?i41_0,?i41_1,?i41_2,?i41_3,?i41_4,?st41⟩;case st41=>(simp only [F99,seval,aJ,a7,cRT,List.length_append];first|rfl|(simp [aJ,bu,a7,cRT,List.length_append,List.length_cons,List.length_nil,hI0,hI1,hat1,hI2,Nat.add_mul];done))
  case i41_0=>(rw [←hL1,hwt])
  all_goals (first|omega|assumption|(simp;omega)|(simp_all;done))
 obtain rfl:i1=a.length:=by omega
 have hI1:¬(a.length:Int)<(a.length:Int):=by omega
 rw [List.drop_length] at hL1;simp only [zF] at hL1;have hwm:w*(K+1)<=pN a*(K+1):=Nat.mul_le_mul_right _ (by omega);have hwts:bb a (e.claims.map fun c=>qOf c.amount)=(rest,out):=by
  have h:=hL1;simp only [lyS,List.nil_append] at h;rw [Prod.ext_iff] at h;exact Prod.ext h.2.symm h.1.symm
 refine awN ?_;simp only [F99,seval,hI1,bu];refine awF ?_;refine awQ ?_;simp only [F99,seval];refine awN ?_;simp only [F99,seval];refine awN ?_;simp only [F99,seval];refine gS 13 124 283 4 (by decide) (by rfl) ?_;simp only [F99,seval];refine aQ [2,3,5,6,13,14] [2,3,18,105,124] ?_;try simp only [ak,F99,seval,aJ]
 repeat' first|apply awS|apply awB
 refine aM (fun n st=>∃i3 la s13 nx,i3<=e.claims.length/\n=e.claims.length-i3/\rLs a rest (e.claims.drop i3) i3 la=rLs a rest e.claims 0 []/\la.length<=i3/\st=⟨mkT [(2,.val (.one (.ptr 2 0 0))),(3,.val (.one (.ptr 3 1 0))),(5,.val (.one (.own 105 s5 out.length 1))),(6,.val (.one (.own 18 2 e.claims.length 3))),(13,.val (.one (.own 124 s13 la.length 4))),(14,one (.int .i64 i3))],mkH [(2,⟨0,36,5,1,aJ e⟩),(3,⟨1,50,1,1,bu a⟩),(18,⟨2,32,3,e.claims.length,aA cQ rest⟩),(105,⟨s5,280,1,out.length,aA cRT out⟩),(124,⟨s13,283,4,la.length,aA cWP la⟩)],nx,0⟩) (e.claims.length) ⟨0,[],_,_,by omega,by omega,by rfl,(by first|omega|assumption|rfl|simp|(simp;omega)),rfl⟩ ?_;rintro n3 st ⟨i3,la,s13,nx3,hk3,rfl,hL3,hV3_1,rfl⟩;by_cases hlt3:i3<e.claims.length
 ·have hI3:(i3:Int)<(e.claims.length:Int):=by omega
  have hat3:=aO cK e.claims i3 hlt3;try rw [Nat.mul_one] at hat3
  rw [List.drop_eq_getElem_cons hlt3] at hL3;have hlal:=hV3_1;generalize e.claims[i3]=c at *
  simp only [rLs] at hL3;refine awN ?_;simp only [F99,seval,hI3,aJ];refine awT ?_;refine awK ?_;simp only [F99,seval];by_cases hmb:mbA (i3:Int) a=true
  ·have hMb:=jA a (i3:Int) (by have:=hB.tn;omega) (fun t ht=>by have:=(hB.pn t ht).1;omega);refine awN ?_;simp only [F99,seval,bu,ab bF];refine ⟨_,hMb,(by first|rfl|simp [aU,aD,al,ax,A1.cells,ab bh,ab bB]),?_⟩;try simp only [ak,F99,seval,hmb]
   refine awT ?_;have hkl3:i3<rest.length:=by omega
   have hatk:=aO bH rest i3 hkl3;have hgk:rest.getD i3 0=rest[i3]:=by rw [List.getD_eq_getElem?_getD,List.getElem?_eq_getElem hkl3];rfl
   simp only [cQ,ai] at hatk;have hfl:=bo bH rest;rw [hV1_2] at hfl;refine awN ?_;simp only [F99,seval,hI3,hatk,hfl];repeat refine ob ?_
   refine awN ?_;simp only [F99,seval];repeat refine ob ?_
   refine ⟨_,aI [2,3,5,6,13,14] [2,3,18,105,124],e.claims.length-(i3+1),by omega,i3+1,(la++[((i3:Int),rest[i3])]),?a49_s13,?a49_nx,by omega,rfl,?i49_0,?i49_1,?st49⟩;case st49=>(simp only [F99,seval,a7,cWP,List.length_append,ai];first|rfl|(simp [aJ,bu,a7,cWP,List.length_append,List.length_cons,List.length_nil,hI0,hI1,hI3,hat3,hmb,Nat.add_mul];done))
   case i49_0=>(have h:=hL3;rw [if_pos hmb,hgk] at h;exact h)
   all_goals (first|omega|assumption|(simp;omega)|(simp_all;done))
  have hMb:=jA a (i3:Int) (by have:=hB.tn;omega) (fun t ht=>by have:=(hB.pn t ht).1;omega);refine awN ?_;simp only [F99,seval,bu,ab bF];refine ⟨_,hMb,(by first|rfl|simp [aU,aD,al,ax,A1.cells,ab bh,ab bB]),?_⟩;try simp only [ak,F99,seval,hmb]
  refine awF ?_;refine awK ?_;simp only [F99,seval];refine awN ?_;simp only [F99,seval];repeat refine ob ?_
  refine ⟨_,aI [2,3,5,6,13,14] [2,3,18,105,124],e.claims.length-(i3+1),by omega,i3+1,?a52_la,?a52_s13,?a52_nx,by omega,rfl,?i52_0,?i52_1,?st52⟩;case st52=>(simp only [F99,seval];first|rfl|(simp [aJ,bu,a7,cWP,List.length_append,List.length_cons,List.length_nil,hI0,hI1,hI3,hat3,hmb,Nat.add_mul];done))
  case i52_0=>(have h:=hL3;rw [if_neg hmb] at h;exact h)
  all_goals (first|omega|assumption|(simp;omega)|(simp_all;done))
 obtain rfl:i3=e.claims.length:=by omega
 have hI3:¬(e.claims.length:Int)<(e.claims.length:Int):=by omega
 rw [List.drop_length] at hL3;simp only [rLs] at hL3;refine awN ?_;simp only [F99,seval,hI0,aJ];refine awF ?_;refine awQ ?_;simp only [F99,seval];refine gT (t:=13) (by rfl) (by rfl) (by decide) (by rfl) ?_;simp only [F99,seval];refine awN ?_;simp only [F99,seval];repeat refine ob ?_
 refine gT (t:=4) (by rfl) (by rfl) (by decide) (by rfl) ?_;refine awX ?_;simp only [F99,seval];have hwl:(aV e.claims a).2=out++[la]:=by unfold aV;rw [hwts,hL3,yn,ym hin];rfl
 have hpp:=ab bh (out++[la]);simp only [a7,cRT] at hpp;simp [hwl,a7,cRT];exact hpp
structure RS where
 got:WR
 slo:WR
 room:Rat
 bnd:Bool
def RS.put (s:RS) (c:Int) (g k:Rat):RS:=⟨s.got.add c g,s.slo.add c k,s.room,s.bnd⟩
def RS.kink (s:RS) (d:Rat):RS:=if s.bnd=false then ⟨s.got,s.slo,d,true⟩ else if d<s.room then ⟨s.got,s.slo,d,true⟩ else s
def dV (tot take rate:Rat) (here:Bool):WT->RS->RS
 |[],s=>s
 |p::t,s=>dV tot take rate here t (s.put p.1 (p.2/tot*take) (if here=true then p.2/tot*rate else 0))
def bP (rate:Rat):List WT->Rat->Bool->RS->RS
  |[],_,_,s=>s
  |t::l,m,mg,s=>
    if av t=0 then bP rate l m mg s
    else bP rate l (m-bC m (av t)) (if mg=true/\m<av t then false else mg)
      (if (mg=true/\m<av t)/\rate≠0 then (dV (av t) (bC m (av t)) rate (decide (mg=true/\m<av t)) t s).kink ((av t-bC m (av t))/rate)
       else dV (av t) (bC m (av t)) rate (decide (mg=true/\m<av t)) t s)
theorem DN {l:List Rat} (i:Nat):l.set i (l.getD i 0)=l:=by
 by_cases h:i<l.length
 ·rw [List.getD_eq_getElem?_getD,List.getElem?_eq_getElem h];exact List.set_getElem_self h
 exact List.set_eq_of_length_le (by omega)
theorem nf (R:WR) (c:Int):R.add c 0=R:=by
 unfold WR.add;split
 ·rw [show R.rv+0=R.rv by grind]
 rw [show R.cl.getD c.toNat 0+0=R.cl.getD c.toNat 0 by grind,DN]
theorem sD:∀(t:WT) (R:WR),(∀p∈t,p.2=0)->eK 1 t R=R
 |[],_,_=>rfl
 |p::t,R,h=>by
  rw [eK,h p (by simp),show (0:Rat)*1=0 by grind,nf];exact sD t R fun x hx=>h x (by simp [hx])
theorem ky (tot take rate:Rat) (here:Bool):∀(t:WT) (s:RS),dV tot take rate here t s=⟨eK (take/tot) t s.got,if here=true then eK (rate/tot) t s.slo else s.slo,s.room,s.bnd⟩
 |[],s=>by cases here<;>rfl
 |p::t,s=>by
  rw [dV,ky tot take rate here t];have h1:p.2/tot*take=p.2*(take/tot):=by rw [Rat.div_def,Rat.div_def];grind
  have h2:p.2/tot*rate=p.2*(rate/tot):=by rw [Rat.div_def,Rat.div_def];grind
  cases here
  ·simp only [RS.put,Bool.false_eq_true,if_false,eK,nf,h1]
  simp only [RS.put,if_true,eK,h1,h2]
theorem sE (q:Rat) (hq:q=0):∀(t:WT) (R:WR),eK q t R=R
 |[],_=>rfl
 |p::t,R=>by
  rw [eK,hq,show p.2*0=0 by grind,nf];exact sE 0 rfl t R
theorem wA:∀(t:WT),(∀p∈t,0<=p.2)->av t=0->∀p∈t,p.2=0
 |q::t,h,h0,p,hp=>by
  have h1:=iX t fun x hx=>h x (by simp [hx])
  have h2:=h q (by simp);rw [av] at h0;rcases List.mem_cons.1 hp with rfl|hp
  ·grind
  exact wA t (fun x hx=>h x (by simp [hx])) (by grind) p hp
theorem sF (rate:Rat):∀(l:List WT) (s:RS),wNN l->bP rate l 0 false s=s
 |[],_,_=>rfl
 |t::l,s,hn=>by
  have hl:=sF rate l s fun x hx=>hn x (by simp [hx])
  have hs:=iX t (hn t (by simp));rw [bP];by_cases h0:av t=0
  ·rw [if_pos h0];exact hl
  have hq:bC 0 (av t)=0:=by unfold bC;rw [if_neg (by grind)]
  rw [if_neg h0,hq];simp only [Bool.false_eq_true,false_and,if_false,decide_false];rw [ky];simp only [Bool.false_eq_true,if_false];rw [sE _ (by rw [Rat.div_def];grind),show (0:Rat)-0=0 by grind];exact hl
theorem mA (rate:Rat):∀(l:List WT) (m:Rat) (s:RS),0<=m->wNN l->
  bP rate l m true s=if a8 l m/\rate≠0 then (⟨gJ l m s.got,cO l m rate s.slo,s.room,s.bnd⟩:RS).kink (cu l m/rate) else ⟨gJ l m s.got,cO l m rate s.slo,s.room,s.bnd⟩
 |[],m,s,_,_=>by
  rw [bP,vK,lw,if_neg (by simp [a8,aG])]
 |t::l,m,s,hm,hn=>by
  have hs:=iX t (hn t (by simp));have hnl:wNN l:=fun x hx=>hn x (by simp [hx])
  rw [bP,rT,jH];by_cases h0:av t=0
  ·have hlt:¬m<av t:=by grind
   have h1:=mA rate l m s hm hnl;have hz:=wA t (hn t (by simp)) h0;have hsub:m-av t=m:=by grind
   have ho:a8 (t::l) m↔a8 l m:=by
    rw [cV,hsub];exact ⟨fun h=>h.resolve_left hlt,.inr⟩
   have hg:cu (t::l) m=cu l m:=by simp [cu,aG,hlt,hsub]
   rw [if_pos h0,if_neg hlt,if_neg hlt,h1,hsub,kd,sD t s.got hz,hg];simp only [ho]
  rw [if_neg h0];by_cases hlt:m<av t
  ·have hq:bC m (av t)=m:=by unfold bC;rw [if_neg (by grind)]
   have ho:a8 (t::l) m:=(cV t l m).2 (.inl hlt);have hg:cu (t::l) m=av t-m:=by simp [cu,aG,hlt]
   rw [hq,show m-m=0 by grind];simp only [hlt,and_self,if_true,true_and,decide_true,ho,hg];rw [sF _ _ _ hnl,ky];simp only [if_true]
  have hq:bC m (av t)=av t:=by unfold bC;split<;>grind
  have h1:=mA rate l (m-av t) (dV (av t) (av t) rate (decide (true=true/\m<av t)) t s) (by grind) hnl;have ho:a8 (t::l) m↔a8 l (m-av t):=by
   rw [cV];exact ⟨fun h=>h.resolve_left hlt,.inr⟩
  have hg:cu (t::l) m=cu l (m-av t):=by simp [cu,aG,hlt]
  have h2:av t/av t=1:=by rw [Rat.div_def];exact Rat.mul_inv_cancel _ h0
  rw [hq];rw [ky] at h1 ⊢;simp only [hlt,and_false,if_false,false_and,decide_false,Bool.false_eq_true,h2,ho,hg,kd] at h1 ⊢;exact h1
def IA:=And.intro zS (And.intro Gq (And.intro Gr (And.intro cD (tu))))
theorem qw:type_of%IA:=IA
theorem Aa (H:Hp) (ny s sg sk nn:Nat) (S:RS) (d:Rat) (h50:H 50=some ⟨s,214,12,1,[.own 46 sg nn 3,.own 48 sk nn 3,.lit (.bool (enc S.got.rv).neg),.lit (.string (enc S.got.rv).num),.lit (.string (enc S.got.rv).den),.lit (.bool (enc S.slo.rv).neg),.lit (.string (enc S.slo.rv).num),.lit (.string (enc S.slo.rv).den),.lit (.bool (enc S.room).neg),.lit (.string (enc S.room).num),.lit (.string (enc S.room).den),.lit (.bool S.bnd)]⟩) (h48:H 48=some ⟨sk,32,3,nn,aA cQ S.slo.cl⟩) (h46:H 46=some ⟨sg,32,3,nn,aA cQ S.got.cl⟩) (hbH:∀y B,H y=some B->y<9000) (h1:qB 99000000000 S.room) (h2:qB 99000000000 d):cT prog 182 [.one (.ptr 50 s 0),.agg (ai (enc d))] H ny
  (fun res H' _=>res= .tup []/\∀y B',bZ H [(50,⟨s,214,12,1,[.own 46 sg nn 3,.own 48 sk nn 3,.lit (.bool (enc (S.kink d).got.rv).neg),.lit (.string (enc (S.kink d).got.rv).num),.lit (.string (enc (S.kink d).got.rv).den),.lit (.bool (enc (S.kink d).slo.rv).neg),.lit (.string (enc (S.kink d).slo.rv).num),.lit (.string (enc (S.kink d).slo.rv).den),.lit (.bool (enc (S.kink d).room).neg),.lit (.string (enc (S.kink d).room).num),.lit (.string (enc (S.kink d).room).den),.lit (.bool (S.kink d).bnd)]⟩),(48,⟨sk,32,3,nn,aA cQ (S.kink d).slo.cl⟩),(46,⟨sg,32,3,nn,aA cQ (S.kink d).got.cl⟩)] y=some B'->H' y=some B'):=by
 have hLs:=zj d S.room _ _ h2 h1 (by omega) (by omega);simp only [ai] at hLs;refine cF 9000 func182 rfl (by decide) (N:=24) rfl (by simp) (Rl:=[]) rfl fun en k0=>?_
 refine awN ?_;simp only [qw,seval,ai];by_cases hb:S.bnd=true
 ·by_cases hlt:d<S.room
  ·have hLt:decide (d<S.room)=true:=decide_eq_true hlt;refine awD (scT 0 11 (scq [22,25] .nil)) [0,0,0,0,0,0,20,20,20,20,20,20,0] ?_;simp only [qw,seval,h50,hb];refine ⟨_,hLs,rfl,?_⟩;try simp only [ak,qw,seval,hlt]
   have hkk:S.kink d=⟨S.got,S.slo,d,true⟩:=by unfold RS.kink;rw [if_neg (by simp [hb]),if_pos hlt]
   refine awT ?_;refine awN ?_;simp only [qw,seval,h50,hb];refine awN ?_;simp only [qw,seval];try refine ⟨rfl,?_⟩
   intro y B h;rw [hkk] at h;try simp only [bZ] at h ⊢
   by_cases hy:y=50
   ·subst hy;first|exact h|(simpa [h50,ai] using h)
   simp only [hy,if_false] at h ⊢;by_cases hy2:y=48
   ·subst hy2;first|exact h|(simpa [h48] using h)
   simp only [hy2,if_false] at h ⊢;by_cases hy3:y=46
   ·subst hy3;first|exact h|(simpa [h46] using h)
   simp only [hy3,if_false] at h ⊢;have h9:=hbH y B h;repeat rw [if_neg (by omega)]
   exact h
  have hLt:decide (d<S.room)=false:=decide_eq_false hlt;refine awD (scT 0 11 (scq [22,25] .nil)) [0,0,0,0,0,0,20,20,20,20,20,20,0] ?_;simp only [qw,seval,h50,hb];refine ⟨_,hLs,rfl,?_⟩;try simp only [ak,qw,seval,hlt]
  have hkk:S.kink d=S:=by unfold RS.kink;rw [if_neg (by simp [hb]),if_neg hlt]
  refine awF ?_;refine awK ?_;simp only [qw,seval];try refine ⟨rfl,?_⟩
  intro y B h;rw [hkk] at h;try simp only [bZ,aB] at h ⊢
  by_cases hy:y=50
  ·subst hy;first|exact h|(simpa [h50,ai] using h)
  simp only [hy,if_false] at h ⊢;by_cases hy2:y=48
  ·subst hy2;first|exact h|(simpa [h48] using h)
  simp only [hy2,if_false] at h ⊢;by_cases hy3:y=46
  ·subst hy3;first|exact h|(simpa [h46] using h)
  simp only [hy3,if_false] at h ⊢;have h9:=hbH y B h;repeat rw [if_neg (by omega)]
  exact h
 refine awD (scT 0 11 (scq [22,25] .nil)) [0,0,0,0,0,0,20,20,20,20,20,20,0] ?_;simp only [qw,seval,h50,hb];have hkk:S.kink d=⟨S.got,S.slo,d,true⟩:=by unfold RS.kink;rw [if_pos (by simpa using hb)]
 refine awT ?_;refine awN ?_;simp only [qw,seval,h50,hb];refine awN ?_;simp only [qw,seval];try refine ⟨rfl,?_⟩
 intro y B h;rw [hkk] at h;try simp only [bZ] at h ⊢
 by_cases hy:y=50
 ·subst hy;first|exact h|(simpa [h50,ai] using h)
 simp only [hy,if_false] at h ⊢;by_cases hy2:y=48
 ·subst hy2;first|exact h|(simpa [h48] using h)
 simp only [hy2,if_false] at h ⊢;by_cases hy3:y=46
 ·subst hy3;first|exact h|(simpa [h46] using h)
 simp only [hy3,if_false] at h ⊢;have h9:=hbH y B h;repeat rw [if_neg (by omega)]
 exact h
def IB:=And.intro zS (And.intro pt (And.intro ll (And.intro EB (And.intro EC (And.intro Fl (And.intro CQ (And.intro nX (cD))))))))
theorem ng:type_of%IB:=IB
theorem qx (H:Hp) (ny s sg sk nn:Nat) (S:RS) (c:Int) (g q:Rat) (h50:H 50=some ⟨s,214,12,1,[.own 46 sg nn 3,.own 48 sk nn 3,.lit (.bool (enc S.got.rv).neg),.lit (.string (enc S.got.rv).num),.lit (.string (enc S.got.rv).den),.lit (.bool (enc S.slo.rv).neg),.lit (.string (enc S.slo.rv).num),.lit (.string (enc S.slo.rv).den),.lit (.bool (enc S.room).neg),.lit (.string (enc S.room).num),.lit (.string (enc S.room).den),.lit (.bool S.bnd)]⟩) (h48:H 48=some ⟨sk,32,3,nn,aA cQ S.slo.cl⟩) (h46:H 46=some ⟨sg,32,3,nn,aA cQ S.got.cl⟩) (hgn:S.got.cl.length=nn) (hsn:S.slo.cl.length=nn) (hbH:∀y B,H y=some B->y<9000) (hl:nn<=1000000) (hc:inR nn c) (hG:S.got.B 99000000000) (hS:S.slo.B 99000000000) (hg:qB 99000000000 g) (hq:qB 99000000000 q):cT prog 185 [.one (.ptr 50 s 0),.one (.lit (.int .i64 c)),.agg (ai (enc g)),.agg (ai (enc q))] H ny
  (fun res H' _=>res= .tup []/\∀y B',bZ H [(50,⟨s,214,12,1,[.own 46 sg nn 3,.own 48 sk nn 3,.lit (.bool (enc (S.put c g q).got.rv).neg),.lit (.string (enc (S.put c g q).got.rv).num),.lit (.string (enc (S.put c g q).got.rv).den),.lit (.bool (enc (S.put c g q).slo.rv).neg),.lit (.string (enc (S.put c g q).slo.rv).num),.lit (.string (enc (S.put c g q).slo.rv).den),.lit (.bool (enc (S.put c g q).room).neg),.lit (.string (enc (S.put c g q).room).num),.lit (.string (enc (S.put c g q).room).den),.lit (.bool (S.put c g q).bnd)]⟩),(48,⟨sk,32,3,nn,aA cQ (S.put c g q).slo.cl⟩),(46,⟨sg,32,3,nn,aA cQ (S.put c g q).got.cl⟩)] y=some B'->H' y=some B'):=by
 have hci:c= -1∨0<=c/\c<nn:=hc;refine cF 9000 func185 rfl (by decide) (N:=58) rfl (by simp) (Rl:=[]) rfl fun en k0=>?_
 refine awN ?_;simp only [ng,seval,ai];by_cases hc0:c= -1
 ·refine awN ?_;simp only [ng,seval,hc0];refine awT ?_;have hA1:=l7 S.got.rv g 99000000000 99000000000 hG.2 hg (by decide) (by decide);simp only [ai] at hA1;refine awD (scT 0 6 (scq [12,15,17,18] .nil)) [0,0,0,0,0,0,0,0,0,0] ?_;simp only [ng,seval,h50];refine ⟨_,hA1,rfl,?_⟩;try simp only [ak,ng,seval,h50]
  have hA2:=l7 S.slo.rv q 99000000000 99000000000 hS.2 hq (by decide) (by decide);simp only [ai] at hA2;refine awD (scT 0 6 (scq [12,15,17,18] .nil)) [0,0,0,0,0,0,0,0,0,0] ?_;simp only [ng,seval];refine ⟨_,hA2,rfl,?_⟩;try simp only [ak,ng,seval]
  refine awX ?_;simp only [ng,seval];have hkk:S.put (-1) g q=⟨⟨S.got.cl,S.got.rv+g⟩,⟨S.slo.cl,S.slo.rv+q⟩,S.room,S.bnd⟩:=by unfold RS.put WR.add;rw [if_pos rfl,if_pos rfl]
  try refine ⟨rfl,?_⟩
  intro y B h;rw [hkk] at h;try simp only [bZ] at h ⊢
  by_cases hy:y=50
  ·subst hy;first|exact h|(simpa [h50,ai] using h)
  simp only [hy,if_false] at h ⊢;by_cases hy2:y=48
  ·subst hy2;first|exact h|(simpa [h48] using h)
  simp only [hy2,if_false] at h ⊢;by_cases hy3:y=46
  ·subst hy3;first|exact h|(simpa [h46] using h)
  simp only [hy3,if_false] at h ⊢;have h9:=hbH y B h;repeat rw [if_neg (by omega)]
  exact h
 refine awN ?_;simp only [ng,seval,hc0];refine awF ?_;refine awK ?_;simp only [ng,seval];obtain ⟨k,hk⟩:∃k:Nat,c=(k:Int):=⟨c.toNat,by omega⟩;subst hk;have hct:((k:Int)).toNat=k:=Int.toNat_natCast k;have hkn:k<S.got.cl.length:=by omega
 have hat:=aO bH S.got.cl k hkn;have hgd:S.got.cl.getD k 0=S.got.cl[k]:=by rw [List.getD_eq_getElem?_getD,List.getElem?_eq_getElem hkn];rfl
 have hA3:=l7 S.got.cl[k] g 99000000000 99000000000 (hG.1 _ (List.getElem_mem hkn)) hg (by decide) (by decide);have hset:=dP bH S.got.cl k (S.got.cl[k]+g) hkn;have hfl:=bo bH S.got.cl;simp only [cQ,ai] at hA3 hset hat;refine awD (scT 0 13 (scq [26,29,30] .nil)) [0,0,0,0,0,0,0,0,0,0,0,0,0,0,0,0] ?_;simp only [ng,seval,h50,h46,hat,hfl];repeat refine ob ?_
 refine ⟨_,hA3,rfl,?_⟩;try simp only [ak,ng,seval,h46,hset,hfl]
 repeat refine ob ?_
 have hkn2:k<S.slo.cl.length:=by omega
 have hat2:=aO bH S.slo.cl k hkn2;have hgd2:S.slo.cl.getD k 0=S.slo.cl[k]:=by rw [List.getD_eq_getElem?_getD,List.getElem?_eq_getElem hkn2];rfl
 have hA4:=l7 S.slo.cl[k] q 99000000000 99000000000 (hS.1 _ (List.getElem_mem hkn2)) hq (by decide) (by decide);have hset2:=dP bH S.slo.cl k (S.slo.cl[k]+q) hkn2;have hfl2:=bo bH S.slo.cl;simp only [cQ,ai] at hA4 hset2 hat2;refine awD (scT 0 13 (scq [26,29,30] .nil)) [0,0,0,0,0,0,0,0,0,0,0,0,0,0,0,0] ?_;simp only [ng,seval,h50,h48,hat2,hfl2];repeat refine ob ?_
 refine ⟨_,hA4,rfl,?_⟩;try simp only [ak,ng,seval,h48,hset2,hfl2]
 repeat refine ob ?_
 have hkk:S.put (k:Int) g q=⟨⟨S.got.cl.set k (S.got.cl[k]+g),S.got.rv⟩,⟨S.slo.cl.set k (S.slo.cl[k]+q),S.slo.rv⟩,S.room,S.bnd⟩:=by unfold RS.put WR.add;rw [if_neg hc0,if_neg hc0,hct,hgd,hgd2]
 try refine ⟨rfl,?_⟩
 intro y B h;rw [hkk] at h;try simp only [bZ] at h ⊢
 by_cases hy:y=50
 ·subst hy;first|exact h|(simpa [h50,ai] using h)
 simp only [hy,if_false] at h ⊢;by_cases hy2:y=48
 ·subst hy2;first|exact h|(simpa [h48] using h)
 simp only [hy2,if_false] at h ⊢;by_cases hy3:y=46
 ·subst hy3;first|exact h|(simpa [h46] using h)
 simp only [hy3,if_false] at h ⊢;have h9:=hbH y B h;repeat rw [if_neg (by omega)]
 exact h
end Go.Proofs.YtokmkopihhnggaaGreatDoor
