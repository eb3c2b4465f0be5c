/- The waterfall: an agreement laid out; walked by the abstract machine. -/
import Derived.Test.YtokmkopihhnggaaGreatDoorLGCM
set_option linter.unusedVariables false
set_option maxHeartbeats 4000000
set_option maxRecDepth 100000
set_option linter.unusedSimpArgs false
set_option linter.defProp false
namespace Go.Proofs.YtokmkopihhnggaaGreatDoor
open Go Go.RowKit Go.Proofs.Tryz
noncomputable def lyT (tr:WT) (t:List GPart) (rest:List Rat):WT×List Rat:=(tr++(b8 t rest).2,(b8 t rest).1)
theorem zE (tr:WT) (rest:List Rat):lyT tr [] rest=(tr,rest):=by simp [lyT,b8]
theorem v6 (tr:WT) (x:GPart) (t:List GPart) (rest:List Rat):lyT tr (x::t) rest=lyT (tr++[(x.claim,(cp rest x).2)]) t (cp rest x).1:=by simp [lyT,b8]
noncomputable def lyS (out:List WT) (a:List (List GPart)) (rest:List Rat):List WT×List Rat:=(out++(bb a rest).2,(bb a rest).1)
theorem zF (out:List WT) (rest:List Rat):lyS out [] rest=(out,rest):=by simp [lyS,bb]
theorem v7 (out:List WT) (t:List GPart) (a:List (List GPart)) (rest:List Rat):lyS out (t::a) rest=lyS (out++[(b8 t rest).2]) a (b8 t rest).1:=by simp [lyS,bb]
theorem Bc (rest:List Rat):dG [] rest=[]:=rfl
theorem qf (i:Int) (M:List Int) (rest:List Rat):dG (i::M) rest=(i,rest.getD i.toNat 0)::dG M rest:=rfl
def pN:List (List GPart)->Nat
 |[]=>0
 |t::a=>t.length+pN a
theorem GU {B:Nat} {p q:Rat} (hp:qB B p) (hq:qB B q):qB B (bC p q):=by
 unfold bC;split
 ·exact hq
 exact hp
theorem kp {B K:Nat} {rest:List Rat} {x:GPart} (h:∀y∈rest,qB B y) (hx:qB K (qOf x.cap)) (hK:K<=B) (h0:0<B):(∀y∈(cp rest x).1,qB (B+(K+1)) y)/\qB B (cp rest x).2:=by
 have hg:=l9 h h0 x.claim.toNat;unfold cp;by_cases hc:x.claim= -1
 ·simp only [hc,if_true];exact ⟨fun y hy=>(h y hy).mono (by omega),hx.mono hK⟩
 simp only [hc,if_false];have hz:qB (B+(K+1)) (rest.getD x.claim.toNat 0-rest.getD x.claim.toNat 0):=by
  rw [Rat.sub_self];exact bW.mono (by omega)
 by_cases hp:x.capped=true
 ·simp only [hp,if_true];refine ⟨fun y hy=>?_,GU hg (hx.mono hK)⟩;rcases List.mem_or_eq_of_mem_set hy with h1|rfl
  ·exact (h y h1).mono (by omega)
  unfold bC;split
  ·exact (hg.sub hx).mono (by omega)
  exact hz
 have hp':x.capped=false:=by simpa using hp
 simp only [hp',if_false,Bool.false_eq_true];refine ⟨fun y hy=>?_,hg⟩;rcases List.mem_or_eq_of_mem_set hy with h1|rfl
 ·exact (h y h1).mono (by omega)
 exact hz
theorem qg {κ:Kx} {vs:List Value} (x:C) (h:denVs κ vs [x,.lit (.bool false),.lit (.string ay),.lit (.string ay)]):denVs κ vs (tcs [] [] x (enc (av []))):=by
 have e:tcs [] [] x (enc (av []))=[x,.lit (.bool false),.lit (.string ay),.lit (.string ay)]:=by
  unfold tcs;rw [show av []=0 from rfl,bf];rfl
 rw [e];exact h
structure layB (cs:List GClaim) (a:bR) (K Km:Nat):Prop where
 n:cs.length<=1000
 am:∀c∈cs,sB K c.amount
 tn:a.length<=1000
 pn:∀t∈a,t.length<=1000/\∀x∈t,inR cs.length x.claim/\sB K x.cap
 mn:(mem a).length<=1000
 mi:∀i∈mem a,0<=i/\i<(cs.length:Int)
 k0:0<K
 km:K+pN a*(K+1)<=Km
 kb:Km<=10000000
def F44:=And.intro zS (And.intro tf1 (And.intro vg (And.intro tf6 (And.intro pt (And.intro Eq (And.intro tf2 (And.intro mN (And.intro tf0 (And.intro ll (And.intro tf7 (And.intro AZ (And.intro tf8 (And.intro vh (And.intro pq (And.intro tf9 (And.intro Ep (And.intro CF (And.intro Gk (And.intro Ex (And.intro xE (And.intro pr (And.intro tf3 (And.intro Gl (And.intro vi (And.intro CG (And.intro AU (And.intro cD (And.intro tu (And.intro jz (And.intro xG (And.intro CI (And.intro Ev (And.intro gH (And.intro I2 (And.intro xF (And.intro tf5 (And.intro dN (And.intro A0 (Ew)))))))))))))))))))))))))))))))))))))))
theorem F45:type_of%F44:=F44
theorem Iu (e:GEst) (a:bR) (K Km:Nat) (hB:layB e.claims a K Km):aR prog 128 [.agg (aJ e),.agg (bu a)] (.val (.agg (cY (aV e.claims a)))):=by
 have hK0:=hB.k0;have hkm:=hB.km;have hkb:=hB.kb;have hfl0:a.flatten.length<=1000000000000:=by
  have h1:∀a:bR,(∀t∈a,t.length<=1000)->a.flatten.length<=a.length*1000:=by
   intro a;induction a with
   |nil=>intro _;simp
   |cons t a ih=>
    intro h;have h1:=ih fun x hx=>h x (by simp [hx])
    have h2:=h t (by simp);simp only [List.flatten_cons,List.length_append,List.length_cons];omega
  have h2:=h1 a fun t ht=>(hB.pn t ht).1
  have h3:=hB.tn;omega
 have hn1:=hB.n;have htn:=hB.tn;have hmn:=hB.mn;refine aP func128 rfl (by decide) (N:=117) rfl (by simp) (R:=[.cell 4 193]) rfl fun en k0=>?_
 refine awN ?_;simp only [F45,seval,aJ,bu];have hMem:=rN a (by have:=hB.tn;omega) hfl0;refine awN ?_;simp only [F45,seval,ab bF];refine ⟨_,hMem,(by first|rfl|simp [al,ax,ab bg]),?_⟩;try simp only [ak,F45,seval]
 refine awN ?_;simp only [F45,seval,ja];repeat refine ob ?_
 refine awN ?_;simp only [F45,seval];refine aQ [3,4,5,6,26,27,28] [3,4,5,24] ?_;try simp only [ak,F45,seval]
 repeat' first|apply awS|apply awB
 refine aM (fun n st=>∃i0 out nx,i0<=e.claims.length/\n=e.claims.length-i0/\out++List.map (fun c=>qOf c.amount) (e.claims.drop i0)=[]++List.map (fun c=>qOf c.amount) e.claims/\out.length=i0/\st=⟨mkT [(3,.val (.one (.ptr 3 1 0))),(4,.val (.one (.ptr 4 2 0))),(5,.val (.one (.ptr 5 3 0))),(6,.val (.one (.own 24 4 e.claims.length 3))),(26,.val (.one (.sh 5 e.claims.length (aA b0 e.claims)))),(27,one (.int .i64 e.claims.length)),(28,one (.int .i64 i0))],mkH [(3,⟨1,50,1,1,bu a⟩),(4,⟨2,193,2,1,[.lit (.slice none 0 0),.lit (.slice none 0 0)]⟩),(5,⟨3,193,2,1,[.sh 1 (mem a).length (aA cI (mem a)),.lit (.slice none 0 0)]⟩),(24,⟨4,32,3,e.claims.length,aA cQ (out++List.replicate (e.claims.length-i0) 0)⟩)],nx,0⟩) (e.claims.length) ⟨0,[],_,by omega,by omega,by rfl,(by first|omega|assumption|rfl|simp|(simp;omega)),rfl⟩ ?_;rintro n0 st ⟨i0,out,nx0,hk0,rfl,hL0,hV0_1,rfl⟩;by_cases hlt0:i0<e.claims.length
 ·have hI0:(i0:Int)<(e.claims.length:Int):=by omega
  have hat0:=aO cK e.claims i0 hlt0;try rw [Nat.mul_one] at hat0
  rw [List.drop_eq_getElem_cons hlt0] at hL0;have hca:=hB.am _ (List.getElem_mem hlt0);generalize e.claims[i0]=c at *
  simp only [List.map_cons] at hL0;refine awN ?_;simp only [F45,seval,hI0];refine awT ?_;refine awK ?_;simp only [F45,seval];refine awN ?_;simp only [F45,seval,hI0,hat0,b0];repeat refine ob ?_
  have hA0:=EG c.amount gZ K 1 hca ⟨by decide,by decide⟩ (by omega) (by decide) hK0 (by decide);rw [mZ,Rat.add_zero] at hA0;simp only [ai,gZ] at hA0;have hXl:(out++List.replicate (e.claims.length-i0) 0).length=e.claims.length:=by simp;omega
  have hset:=dP bH (out++List.replicate (e.claims.length-i0) 0) i0 (qOf c.amount) (by omega);have hXs:(out++List.replicate (e.claims.length-i0) 0).set i0 (qOf c.amount)=out++[qOf c.amount]++List.replicate (e.claims.length-(i0+1)) 0:=by
   rw [List.set_append_right _ _ (by omega),hV0_1,Nat.sub_self,show e.claims.length-i0=(e.claims.length-(i0+1))+1 by omega,List.replicate_succ,List.set_cons_zero,List.append_assoc];try rfl
  rw [hXs] at hset;have hfl:=bo bH (out++List.replicate (e.claims.length-i0) 0);rw [hXl] at hfl;simp only [cQ,ai] at hset;refine awN ?_;simp only [F45,seval];refine ⟨_,hA0,(by first|rfl|simp [aU,aD,al,ax,A1.cells,ab bg]),?_⟩;try simp only [ak,F45,seval,hI0,hset,hfl]
  repeat refine ob ?_
  refine awN ?_;simp only [F45,seval];repeat refine ob ?_
  refine ⟨_,aI [3,4,5,6,26,27,28] [3,4,5,24],e.claims.length-(i0+1),by omega,i0+1,(out++[qOf c.amount]),?a8_nx,by omega,rfl,?i8_0,?i8_1,?st8⟩;case st8=>(simp only [F45,seval,bu];first|rfl|(simp [bu,hI0,hat0,Nat.add_mul];done))
  case i8_0=>(simpa using hL0)
  all_goals (first|omega|assumption|(simp;omega)|(simp_all;done))
 obtain rfl:i0=e.claims.length:=by omega
 have hI0:¬(e.claims.length:Int)<(e.claims.length:Int):=by omega
 rw [List.drop_length] at hL0;simp only [List.map_nil,List.append_nil] at hL0;subst hL0;refine awN ?_;simp only [F45,seval,hI0];refine awF ?_;refine awQ ?_;simp only [F45,seval];refine awN ?_;simp only [F45,seval,bu];refine lX 5 1 93 _ 190 4 (by decide) (by rfl) (by decide) (by simp) (by rfl) ?_;have hV1a:∀y∈(e.claims.map fun c=>qOf c.amount),qB (K+0*(K+1)) y:=fun y hy=>by
  obtain ⟨c,h1,rfl⟩:=List.mem_map.1 hy;exact ((hB.am c h1).qB hK0).mono (by omega)
 have hrl:∀l:List Rat,l++List.replicate (e.claims.length-e.claims.length) 0=l:=fun l=>by simp
 simp only [F45,seval,hrl];refine aQ [4,5,6,42,43,44] [4,5,24,93] ?_;try simp only [ak,F45,seval]
 repeat' first|apply awS|apply awB
 refine aM (fun n st=>∃i1 out rest w s9 nx,i1<=a.length/\n=a.length-i1/\lyS out (a.drop i1) rest=lyS [] a (e.claims.map fun c:GClaim=>qOf c.amount)/\out.length=i1/\rest.length=e.claims.length/\(∀y∈rest,qB (K+w*(K+1)) y)/\w+pN (a.drop i1)=pN a/\st=⟨mkT [(4,.val (.one (.ptr 4 2 0))),(5,.val (.one (.ptr 5 3 0))),(6,.val (.one (.own 24 4 e.claims.length 3))),(42,.val (.one (.sh 1 a.length (aA bD a)))),(43,one (.int .i64 a.length)),(44,one (.int .i64 i1))],mkH [(4,⟨2,193,2,1,[.lit (.slice none 0 0),.lit (.slice none 0 0)]⟩),(5,⟨3,193,2,1,[.sh 1 (mem a).length (aA cI (mem a)),.own 93 s9 out.length 4]⟩),(24,⟨4,32,3,e.claims.length,aA cQ rest⟩),(93,⟨s9,190,4,out.length,aA cWT out⟩)],nx,0⟩) (a.length) ⟨0,[],(e.claims.map fun c:GClaim=>qOf c.amount),0,_,_,by omega,by omega,by rfl,(by first|omega|assumption|rfl|simp|(simp;omega)),(by first|omega|assumption|rfl|simp|(simp;omega)),(by first|omega|assumption|rfl|simp|(simp;omega)),(by first|omega|assumption|rfl|simp|(simp;omega)),rfl⟩ ?_;rintro n1 st ⟨i1,out,rest,w,s9,nx1,hk1,rfl,hL1,hV1_1,hV1_2,hV1_3,hV1_4,rfl⟩;by_cases hlt1:i1<a.length
 ·have hI1:(i1:Int)<(a.length:Int):=by omega
  have hat1:=aO eA a i1 hlt1;try rw [Nat.mul_one] at hat1
  rw [List.drop_eq_getElem_cons hlt1] at hL1;have hpt:=hB.pn _ (List.getElem_mem hlt1);have hR1n:=hV1_2;have hR1:=hV1_3;have hw0:=hV1_4;rw [List.drop_eq_getElem_cons hlt1] at hw0;simp only [pN] at hw0;have hmw:(w+(a[i1]).length)*(K+1)=w*(K+1)+(a[i1]).length*(K+1):=Nat.add_mul _ _ _;have hm1:(w+(a[i1]).length)*(K+1)<=pN a*(K+1):=Nat.mul_le_mul_right _ (by omega);generalize a[i1]=t at *
  simp only [v7] at hL1;refine awN ?_;simp only [F45,seval,hI1];refine awT ?_;refine awK ?_;simp only [F45,seval];refine awN ?_;simp only [F45,seval,hI1,hat1,bD];repeat refine ob ?_
  refine awN ?_;simp only [F45,seval];refine awN ?_;simp only [F45,seval];refine lX 11 0 3015 _ 230 4 (by decide) (by rfl) (by decide) (by simp) (by rfl) ?_;refine cm (dz 11 (tcs [] [] (.own 3015 _ 0 4) (enc (av []))) (by rfl) (by show (4:Nat)≠0;decide) (by rfl) (fun κ vs h=>qg _ h)) ?_;simp only [F45,seval];have hV2a:∀y∈rest,qB (K+w*(K+1)+0*(K+1)) y:=fun y hy=>(hR1 y hy).mono (by omega)
  refine aQ [4,5,6,42,43,44,10,11,48,49,50] [4,5,24,93,11,3015] ?_;try simp only [ak,F45,seval]
  repeat' first|apply awS|apply awB
  refine aM (fun n st=>∃i2 tr rest2 sp nx,i2<=t.length/\n=t.length-i2/\lyT tr (t.drop i2) rest2=lyT [] t rest/\tr.length=i2/\rest2.length=e.claims.length/\(∀y∈rest2,qB (K+w*(K+1)+i2*(K+1)) y)/\(∀p∈tr,qB Km p.2)/\st=⟨mkT [(4,.val (.one (.ptr 4 2 0))),(5,.val (.one (.ptr 5 3 0))),(6,.val (.one (.own 24 4 e.claims.length 3))),(42,.val (.one (.sh 1 a.length (aA bD a)))),(43,one (.int .i64 a.length)),(44,one (.int .i64 i1)),(10,.val (.one (.sh 5 t.length (aA bT t)))),(11,.val (.one (.ptr 11 (nx1+0) 0))),(48,.val (.one (.sh 5 t.length (aA bT t)))),(49,one (.int .i64 t.length)),(50,one (.int .i64 i2))],mkH [(4,⟨2,193,2,1,[.lit (.slice none 0 0),.lit (.slice none 0 0)]⟩),(5,⟨3,193,2,1,[.sh 1 (mem a).length (aA cI (mem a)),.own 93 s9 out.length 4]⟩),(24,⟨4,32,3,e.claims.length,aA cQ rest2⟩),(93,⟨s9,190,4,out.length,aA cWT out⟩),(11,⟨nx1+0,190,4,1,tcs [] [] (.own 3015 sp tr.length 4) (enc (av tr))⟩),(3015,⟨sp,230,4,tr.length,aA cWP tr⟩)],nx,0⟩) (t.length) ⟨0,[],rest,_,_,by omega,by omega,by rfl,(by first|omega|assumption|rfl|simp|(simp;omega)),(by first|omega|assumption|rfl|simp|(simp;omega)),(by first|omega|assumption|rfl|simp|(simp;omega)),(by first|omega|assumption|rfl|simp|(simp;omega)),rfl⟩ ?_;rintro n2 st ⟨i2,tr,rest2,sp,nx2,hk2,rfl,hL2,hV2_1,hV2_2,hV2_3,hV2_4,rfl⟩;by_cases hlt2:i2<t.length
  ·have hI2:(i2:Int)<(t.length:Int):=by omega
   have hat2:=aO eX t i2 hlt2;try rw [Nat.mul_one] at hat2
   rw [List.drop_eq_getElem_cons hlt2] at hL2;have hxx:=hpt.2 _ (List.getElem_mem hlt2);have hxc:=hxx.1;have hxs:=hxx.2;have htl:=hV2_1;have hRn:=hV2_2;have hR2:=hV2_3;have hTq:=hV2_4;have hmul:(i2+1)*(K+1)<=t.length*(K+1):=Nat.mul_le_mul_right _ hlt2;have hmul1:(i2+1)*(K+1)=i2*(K+1)+(K+1):=Nat.succ_mul _ _;have hSm:∀tr:WT,(∀p∈tr,qB Km p.2)->tr.length<=1000->qB 50000000000 (av tr):=fun tr h1 h2=>(iW tr h1).mono (by have:=Nat.mul_le_mul h2 (show Km+1<=10000001 by omega);omega)
   have hSm:=hSm tr hTq (by have:=hpt.1;omega);have hcm: -1<=(t[i2]).claim/\(t[i2]).claim<=1000000:=by rcases hxc with h|h<;>omega
   generalize t[i2]=x at *
   simp only [v6] at hL2;refine awN ?_;simp only [F45,seval,hI2];refine awT ?_;refine awK ?_;simp only [F45,seval];refine awN ?_;simp only [F45,seval,hI2,hat2,bT];repeat refine ob ?_
   by_cases hc:x.claim= -1
   ·refine awN ?_;simp only [F45,seval,hc];refine awT ?_;have hA:=EG x.cap gZ K 1 hxs ⟨by decide,by decide⟩ (by omega) (by decide) hK0 (by decide);rw [mZ,Rat.add_zero] at hA;simp only [ai,gZ] at hA;have hwp:cp rest2 x=(rest2,qOf x.cap):=by unfold cp;rw [if_pos hc]
    have hq9:qB 50000000000 (qOf x.cap):=(hxs.qB hK0).mono (by omega);have hnT:∀p∈tr++[(x.claim,qOf x.cap)],qB Km p.2:=fun p hp=>by
     rcases List.mem_append.1 hp with h|h
     ·exact hTq p h
     simp only [List.mem_singleton] at h;subst h;exact (hxs.qB hK0).mono (by omega)
    have hnR:∀y∈rest2,qB (K+w*(K+1)+(i2+1)*(K+1)) y:=fun y hy=>(hR2 y hy).mono (by omega)
    refine awR [61] [0,0,0,0,0] ?_;simp only [F45,seval];refine ⟨_,hA,(by first|rfl|simp [aU,aD,al,ax,A1.cells,ab bg]),?_⟩;try simp only [ak,F45,seval]
    refine ⟨_,qe _ _ 11 (nx1+0) 4 1 3015 sp 190 [] [] tr (-1) (qOf x.cap) (by decide) (by rfl) (by rfl) (by decide) (fun k h1 h2=>by refine ⟨?_,?_,?_,?_⟩<;>(simp;omega)) (by decide) (fun y B h=>?_) (by omega) (by omega) hSm hq9,?_⟩
    ·by_cases hy:y<3000∨3015<=y
     ·exact hy
     exfalso;simp only [aB] at h;repeat rw [if_neg (by omega)] at h
     cases h
    rintro res H' nx' ⟨rfl,hW⟩;simp only [F45,seval];refine cg hW ?_;simp only [F45,seval];refine awQ ?_;simp only [F45,seval];refine awN ?_;simp only [F45,seval];repeat refine ob ?_
    refine ⟨_,aI [4,5,6,42,43,44,10,11,48,49,50] [4,5,24,93,11,3015],t.length-(i2+1),by omega,i2+1,(tr++[(x.claim,qOf x.cap)]),(rest2),?a20_sp,?a20_nx,by omega,rfl,?i20_0,?i20_1,?i20_2,?i20_3,?i20_4,?st20⟩;case st20=>(simp only [F45,seval,dQ,a7,cWP,List.length_append,ai,hc];first|rfl|(simp [dQ,a7,cWP,List.length_append,List.length_cons,List.length_nil,hI0,hI1,hat1,hI2,hat2,hc,Nat.add_mul];done))
    case i20_0=>(rw [←hL2,hwp])
    all_goals (first|omega|assumption|(simp;omega)|(simp_all;done))
   refine awN ?_;simp only [F45,seval,hc];refine awF ?_;refine awK ?_;simp only [F45,seval];obtain ⟨k,hxk⟩:∃k:Nat,x.claim=(k:Int):=⟨x.claim.toNat,by rcases hxc with h|h<;>omega⟩;have hkl:k<rest2.length:=by rcases hxc with h|h<;>omega
   have hkt:x.claim.toNat=k:=by omega
   have hatk:=aO bH rest2 k hkl;have hgk:rest2.getD x.claim.toNat 0=rest2[k]:=by rw [hxk,Int.toNat_natCast,List.getD_eq_getElem?_getD,List.getElem?_eq_getElem hkl];rfl
   have hgB:=hR2 _ (List.getElem_mem hkl);simp only [cQ,ai] at hatk;have hfl:=bo bH rest2;rw [hRn] at hfl;refine awN ?_;simp only [F45,seval,hatk,hfl,hkt];repeat refine ob ?_
   by_cases hcap:x.capped=true
   ·refine awN ?_;simp only [F45,seval,hcap];refine awT ?_;have hMin:=Ij (enc rest2[k]) x.cap _ K (dT hgB) hxs (by omega) (by omega) hgB.pos hK0;rw [ci] at hMin;simp only [ai] at hMin;refine awN ?_;simp only [F45,seval];refine ⟨_,hMin,(by first|rfl|simp [aU,aD,al,ax,A1.cells,ab bg]),?_⟩;try simp only [ak,F45,seval]
    obtain ⟨hPB1,hPB2⟩:=kp hR2 (hxs.qB hK0) (by omega) (by omega);have hwp:cp rest2 x=(rest2.set k (rest2[k]-bC rest2[k] (qOf x.cap)),bC rest2[k] (qOf x.cap)):=by unfold cp;rw [if_neg hc,hgk,hxk,Int.toNat_natCast];simp only [hcap,if_true]
    rw [hwp] at hPB1 hPB2;simp only at hPB1 hPB2;have hSub:=zC rest2[k] (bC rest2[k] (qOf x.cap)) _ _ hgB hPB2 (by omega) (by omega);simp only [ai] at hSub;have hset:=dP bH rest2 k (rest2[k]-bC rest2[k] (qOf x.cap)) hkl;simp only [cQ,ai] at hset;have hq9:qB 50000000000 (bC rest2[k] (qOf x.cap)):=hPB2.mono (by omega);have hnT:∀p∈tr++[(x.claim,bC rest2[k] (qOf x.cap))],qB Km p.2:=fun p hp=>by
     rcases List.mem_append.1 hp with h|h
     ·exact hTq p h
     simp only [List.mem_singleton] at h;subst h;exact hPB2.mono (by omega)
    have hnR:∀y∈rest2.set k (rest2[k]-bC rest2[k] (qOf x.cap)),qB (K+w*(K+1)+(i2+1)*(K+1)) y:=fun y hy=>(hPB1 y hy).mono (by omega)
    refine awD (scT 0 9 (scq [18,21,22] .nil)) [0,0,0,0,0,0,0,0,0,0,0,0] ?_;simp only [F45,seval,hatk,hfl,hkt];repeat refine ob ?_
    refine ⟨_,hSub,(by first|rfl|simp [aU,aD,al,ax,A1.cells,ab bg]),?_⟩;try simp only [ak,F45,seval,hfl,hset,hkt]
    repeat refine ob ?_
    refine awR [87] [0,0,0,0] ?_;simp only [F45,seval];refine ⟨_,qe _ _ 11 (nx1+0) 4 1 3015 sp 190 [] [] tr x.claim (bC rest2[k] (qOf x.cap)) (by decide) (by rfl) (by rfl) (by decide) (fun k h1 h2=>by refine ⟨?_,?_,?_,?_⟩<;>(simp;omega)) (by decide) (fun y B h=>?_) (by omega) (by omega) hSm hq9,?_⟩
    ·by_cases hy:y<3000∨3015<=y
     ·exact hy
     exfalso;simp only [aB] at h;repeat rw [if_neg (by omega)] at h
     cases h
    rintro res H' nx' ⟨rfl,hW⟩;simp only [F45,seval];refine cg hW ?_;simp only [F45,seval];refine awN ?_;simp only [F45,seval];repeat refine ob ?_
    refine ⟨_,aI [4,5,6,42,43,44,10,11,48,49,50] [4,5,24,93,11,3015],t.length-(i2+1),by omega,i2+1,(tr++[(x.claim,bC rest2[k] (qOf x.cap))]),(rest2.set k (rest2[k]-bC rest2[k] (qOf x.cap))),?a28_sp,?a28_nx,by omega,rfl,?i28_0,?i28_1,?i28_2,?i28_3,?i28_4,?st28⟩;case st28=>(simp only [F45,seval,dQ,a7,cWP,List.length_append,ai];first|rfl|(simp [dQ,a7,cWP,List.length_append,List.length_cons,List.length_nil,hI0,hI1,hat1,hI2,hat2,hc,hcap,Nat.add_mul];done))
    case i28_0=>(rw [←hL2,hwp])
    all_goals (first|omega|assumption|(simp;omega)|(simp_all;done))
   refine awN ?_;simp only [F45,seval,hcap];refine awF ?_;refine awK ?_;simp only [F45,seval];obtain ⟨hPB1,hPB2⟩:=kp hR2 (hxs.qB hK0) (by omega) (by omega);have hwp:cp rest2 x=(rest2.set k (rest2[k]-rest2[k]),rest2[k]):=by unfold cp;rw [if_neg hc,hgk,hxk,Int.toNat_natCast];simp only [hcap,if_false,Bool.false_eq_true]
   rw [hwp] at hPB1 hPB2;simp only at hPB1 hPB2;have hSub:=zC rest2[k] (rest2[k]) _ _ hgB hPB2 (by omega) (by omega);simp only [ai] at hSub;have hset:=dP bH rest2 k (rest2[k]-rest2[k]) hkl;simp only [cQ,ai] at hset;have hq9:qB 50000000000 (rest2[k]):=hPB2.mono (by omega);have hnT:∀p∈tr++[(x.claim,rest2[k])],qB Km p.2:=fun p hp=>by
    rcases List.mem_append.1 hp with h|h
    ·exact hTq p h
    simp only [List.mem_singleton] at h;subst h;exact hPB2.mono (by omega)
   have hnR:∀y∈rest2.set k (rest2[k]-rest2[k]),qB (K+w*(K+1)+(i2+1)*(K+1)) y:=fun y hy=>(hPB1 y hy).mono (by omega)
   refine awD (scT 0 9 (scq [18,21,22] .nil)) [0,0,0,0,0,0,0,0,0,0,0,0] ?_;simp only [F45,seval,hatk,hfl,hkt];repeat refine ob ?_
   refine ⟨_,hSub,(by first|rfl|simp [aU,aD,al,ax,A1.cells,ab bg]),?_⟩;try simp only [ak,F45,seval,hfl,hset,hkt]
   repeat refine ob ?_
   refine awR [87] [0,0,0,0] ?_;simp only [F45,seval];refine ⟨_,qe _ _ 11 (nx1+0) 4 1 3015 sp 190 [] [] tr x.claim (rest2[k]) (by decide) (by rfl) (by rfl) (by decide) (fun k h1 h2=>by refine ⟨?_,?_,?_,?_⟩<;>(simp;omega)) (by decide) (fun y B h=>?_) (by omega) (by omega) hSm hq9,?_⟩
   ·by_cases hy:y<3000∨3015<=y
    ·exact hy
    exfalso;simp only [aB] at h;repeat rw [if_neg (by omega)] at h
    cases h
   rintro res H' nx' ⟨rfl,hW⟩;simp only [F45,seval];refine cg hW ?_;simp only [F45,seval];refine awN ?_;simp only [F45,seval];repeat refine ob ?_
   refine ⟨_,aI [4,5,6,42,43,44,10,11,48,49,50] [4,5,24,93,11,3015],t.length-(i2+1),by omega,i2+1,(tr++[(x.claim,rest2[k])]),(rest2.set k (rest2[k]-rest2[k])),?a33_sp,?a33_nx,by omega,rfl,?i33_0,?i33_1,?i33_2,?i33_3,?i33_4,?st33⟩;case st33=>(simp only [F45,seval,dQ,a7,cWP,List.length_append,ai];first|rfl|(simp [dQ,a7,cWP,List.length_append,List.length_cons,List.length_nil,hI0,hI1,hat1,hI2,hat2,hc,hcap,Nat.add_mul];done))
   case i33_0=>(rw [←hL2,hwp])
   all_goals (first|omega|assumption|(simp;omega)|(simp_all;done))
  obtain rfl:i2=t.length:=by omega
  have hI2:¬(t.length:Int)<(t.length:Int):=by omega
  rw [List.drop_length] at hL2;simp only [zE] at hL2;have hwt:b8 t rest=(rest2,tr):=by
   have h:=hL2;simp only [lyT,List.nil_append] at h;rw [Prod.ext_iff] at h;exact Prod.ext h.2.symm h.1.symm
  have hV2e:∀y∈rest2,qB (K+(w+t.length)*(K+1)) y:=fun y hy=>(hV2_3 y hy).mono (by omega)
  refine awN ?_;simp only [F45,seval,hI2];refine awF ?_;refine awQ ?_;simp only [F45,seval];refine dp 3015 11 0 (by rfl) (by rfl) (by rfl) (by decide) (by show (4:Nat)≠0;decide) (by show (4:Nat)≠0;decide) rfl ?_;simp only [F45,seval];refine awN ?_;simp only [F45,seval,ai,tcs];repeat refine ob ?_
  refine awN ?_;simp only [F45,seval];repeat refine ob ?_
  refine ⟨_,aI [4,5,6,42,43,44] [4,5,24,93],a.length-(i1+1),by omega,i1+1,(out++[tr]),(rest2),(w+t.length),?a37_s9,?a37_nx,by omega,rfl,?i37_0,?i37_1,?i37_2,?i37_3,?i37_4,?st37⟩;case st37=>(simp only [F45,seval,a7,cWT,List.length_append,ai];first|rfl|(simp [a7,cWT,List.length_append,List.length_cons,List.length_nil,hI0,hI1,hat1,hI2,Nat.add_mul];done))
  case i37_0=>(rw [←hL1,hwt])
  all_goals (first|omega|assumption|(simp;omega)|(simp_all;done))
 obtain rfl:i1=a.length:=by omega
 have hI1:¬(a.length:Int)<(a.length:Int):=by omega
 rw [List.drop_length] at hL1;simp only [zF] at hL1;have hwm:w*(K+1)<=pN a*(K+1):=Nat.mul_le_mul_right _ (by omega);have hwts:bb a (e.claims.map fun c=>qOf c.amount)=(rest,out):=by
  have h:=hL1;simp only [lyS,List.nil_append] at h;rw [Prod.ext_iff] at h;exact Prod.ext h.2.symm h.1.symm
 refine awN ?_;simp only [F45,seval,hI1];refine awF ?_;refine awQ ?_;simp only [F45,seval];refine awN ?_;simp only [F45,seval];refine awN ?_;simp only [F45,seval];refine lX 15 0 3015 _ 230 4 (by decide) (by rfl) (by decide) (by simp) (by rfl) ?_;refine cm (dz 15 (tcs [] [] (.own 3015 _ 0 4) (enc (av []))) (by rfl) (by show (4:Nat)≠0;decide) (by rfl) (fun κ vs h=>qg _ h)) ?_;simp only [F45,seval];refine aQ [4,5,6,15,97,98,99] [4,5,24,93,15,3015] ?_;try simp only [ak,F45,seval]
 repeat' first|apply awS|apply awB
 refine aM (fun n st=>∃i3 la sp nx,i3<=(mem a).length/\n=(mem a).length-i3/\la++dG ((mem a).drop i3) rest=[]++dG (mem a) rest/\la.length=i3/\(∀p∈la,qB Km p.2)/\st=⟨mkT [(4,.val (.one (.ptr 4 2 0))),(5,.val (.one (.ptr 5 3 0))),(6,.val (.one (.own 24 4 e.claims.length 3))),(15,.val (.one (.ptr 15 (nx1+0) 0))),(97,.val (.one (.sh 1 (mem a).length (aA cI (mem a))))),(98,one (.int .i64 (mem a).length)),(99,one (.int .i64 i3))],mkH [(4,⟨2,193,2,1,[.lit (.slice none 0 0),.lit (.slice none 0 0)]⟩),(5,⟨3,193,2,1,[.sh 1 (mem a).length (aA cI (mem a)),.own 93 s9 out.length 4]⟩),(24,⟨4,32,3,e.claims.length,aA cQ rest⟩),(93,⟨s9,190,4,out.length,aA cWT out⟩),(15,⟨nx1+0,190,4,1,tcs [] [] (.own 3015 sp la.length 4) (enc (av la))⟩),(3015,⟨sp,230,4,la.length,aA cWP la⟩)],nx,0⟩) ((mem a).length) ⟨0,[],_,_,by omega,by omega,by rfl,(by first|omega|assumption|rfl|simp|(simp;omega)),(by first|omega|assumption|rfl|simp|(simp;omega)),rfl⟩ ?_;rintro n3 st ⟨i3,la,sp,nx3,hk3,rfl,hL3,hV3_1,hV3_2,rfl⟩;by_cases hlt3:i3<(mem a).length
 ·have hI3:(i3:Int)<((mem a).length:Int):=by omega
  have hat3:=aO mO (mem a) i3 hlt3;try rw [Nat.mul_one] at hat3
  rw [List.drop_eq_getElem_cons hlt3] at hL3;have hxi:=hB.mi _ (List.getElem_mem hlt3);have hlal:=hV3_1;have hlaq:=hV3_2;obtain ⟨k,hxk⟩:∃k:Nat,(mem a)[i3]=(k:Int):=⟨((mem a)[i3]).toNat,by omega⟩;have hkl:k<rest.length:=by omega
  have hkt:((mem a)[i3]).toNat=k:=by omega
  have hatk:=aO bH rest k hkl;have hgk:rest.getD ((mem a)[i3]).toNat 0=rest[k]:=by rw [hxk,Int.toNat_natCast,List.getD_eq_getElem?_getD,List.getElem?_eq_getElem hkl];rfl
  have hgB:=hV1_3 _ (List.getElem_mem hkl);simp only [cQ,ai] at hatk;have hfl:=bo bH rest;rw [hV1_2] at hfl;have hSm:qB 50000000000 (av la):=(iW la hlaq).mono (by have h3:=Nat.mul_le_mul (show la.length<=1000 by omega) (show Km+1<=10000001 by omega);omega);have hq9:qB 50000000000 rest[k]:=hgB.mono (by omega);have hKq:qB Km rest[k]:=hgB.mono (by omega);have hnT:∀p∈la++[((mem a)[i3],rest[k])],qB Km p.2:=fun p hp=>by
   rcases List.mem_append.1 hp with h|h
   ·exact hlaq p h
   simp only [List.mem_singleton] at h;subst h;exact hKq
  generalize (mem a)[i3]=x at *
  simp only [qf] at hL3;refine awN ?_;simp only [F45,seval,hI3];refine awT ?_;refine awK ?_;simp only [F45,seval];refine awN ?_;simp only [F45,seval,hI3,hat3,cI];repeat refine ob ?_
  refine awR [108] [0,0,0,0,0,0] ?_;simp only [F45,seval,hatk,hfl,hkt];repeat refine ob ?_
  refine ⟨_,qe _ _ 15 (nx1+0) 4 1 3015 sp 190 [] [] la x rest[k] (by decide) (by rfl) (by rfl) (by decide) (fun k h1 h2=>by refine ⟨?_,?_,?_,?_⟩<;>(simp;omega)) (by decide) (fun y B h=>?_) (by omega) (by omega) hSm hq9,?_⟩
  ·by_cases hy:y<3000∨3015<=y
   ·exact hy
   exfalso;simp only [aB] at h;repeat rw [if_neg (by omega)] at h
   cases h
  rintro res H' nx' ⟨rfl,hW⟩;simp only [F45,seval];refine cg hW ?_;simp only [F45,seval];refine awN ?_;simp only [F45,seval];repeat refine ob ?_
  refine ⟨_,aI [4,5,6,15,97,98,99] [4,5,24,93,15,3015],(mem a).length-(i3+1),by omega,i3+1,(la++[(x,rest[k])]),?a45_sp,?a45_nx,by omega,rfl,?i45_0,?i45_1,?i45_2,?st45⟩;case st45=>(simp only [F45,seval,dQ,a7,cWP,List.length_append,ai];first|rfl|(simp [dQ,a7,cWP,List.length_append,List.length_cons,List.length_nil,hI0,hI1,hI3,hat3,Nat.add_mul];done))
  case i45_0=>(have h:=hL3;rw [hgk] at h;simpa using h)
  all_goals (first|omega|assumption|(simp;omega)|(simp_all;done))
 obtain rfl:i3=(mem a).length:=by omega
 have hI3:¬((mem a).length:Int)<((mem a).length:Int):=by omega
 rw [List.drop_length] at hL3;simp only [Bc,List.append_nil] at hL3;have hla:=hL3;refine awN ?_;simp only [F45,seval,hI3];refine awF ?_;refine awQ ?_;simp only [F45,seval];refine dp 3015 15 0 (by rfl) (by rfl) (by rfl) (by decide) (by show (4:Nat)≠0;decide) (by show (4:Nat)≠0;decide) rfl ?_;simp only [F45,seval];refine awN ?_;simp only [F45,seval,ai,tcs];repeat refine ob ?_
 refine dp 114 5 1 (by rfl) (by rfl) (by rfl) (by decide) (by show (4:Nat)≠0;decide) (by show (2:Nat)≠0;decide) rfl ?_;simp only [F45,seval];refine awN ?_;simp only [F45,seval];refine awX ?_;simp only [F45,seval,ab bg];simp [aV,hwts,cY,hla,a7,cWT,ai,nJ,al,ax,ab bB,ab aw]
end Go.Proofs.YtokmkopihhnggaaGreatDoor
