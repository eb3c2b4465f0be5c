/- Payments made back in a group whose estates and claims are the caller's own: the program's pay; walked by the abstract machine. -/
import Derived.Test.YtcgpghifhehlhaaGreatDoorCc2M
import Derived.Test.YtcgpghifhehlhaaGreatDoorCb1M
import Derived.Test.YtcgpghifhehlhaaGreatDoorGc2M
set_option linter.unusedVariables false
set_option maxHeartbeats 4000000
set_option maxRecDepth 100000
set_option linter.unusedSimpArgs false
set_option linter.defProp false
set_option linter.unusedSectionVars false
namespace Go.Proofs.YtcgpghifhehlhaaGreatDoor
open Go Go.RowKit Go.Proofs.Tryz
noncomputable def adE (a:Rat) (e:GEst):GEst:=⟨enc (qOf e.cash+a),e.claims,e.agrs⟩
noncomputable def sbE (a:Rat) (e:GEst):GEst:=⟨enc (qOf e.cash-a),e.claims,e.agrs⟩
noncomputable def apE (c:GClaim) (e:GEst):GEst:=⟨e.cash,e.claims++[c],e.agrs⟩
noncomputable def upE (es:List GEst) (j:Nat) (f:GEst->GEst):List GEst:=es.set j (f (es.getD j bM))
noncomputable def zz (es:List GEst) (est hold rank:Int) (amt:GRat):List GEst:=
 let x:=upE es est.toNat (adE (qOf amt))
 let y:=if hold= -1 then x else upE x hold.toNat (sbE (qOf amt))
 if rank= -1 then y else upE y est.toNat (apE ⟨hold,rank,clR amt⟩)
noncomputable def pyC (es:List GEst) (est hold rank:Int) (amt:GRat):Int:=
 if est<0∨(es.length:Int)<=est then 1
 else if (¬hold= -1/\(hold<0∨(es.length:Int)<=hold))∨hold=est then 19
 else if ¬rank= -1/\(rank<2∨7<rank) then 1
 else if aL (qOf amt)<0 then 7
 else if ¬hold= -1/\fV (qOf (es.getD hold.toNat bM).cash) (qOf amt)<0 then 50
 else if ¬rank= -1/\(24:Int)<=((es.getD est.toNat bM).claims.length:Int) then 2
 else 0
theorem LL (es:List GEst) (j:Nat) (f:GEst->GEst):(upE es j f).length=es.length:=List.length_set ..
theorem zp {ps:List (GEst×Nat)} {q:GEst×Nat} {j:Nat} (f:GEst->GEst) (t:Nat) (hq:ps[j]? =some q):(ps.set j (f q.1,t)).map (·.1)=upE (ps.map (·.1)) j f:=by
 rw [List.map_set];unfold upE;congr 1;have:(ps.map (·.1)).getD j bM=q.1:=by rw [List.getD_eq_getElem?_getD,List.getElem?_map,hq];rfl
 rw [this]
theorem fd {ps:List (GEst×Nat)} {q:GEst×Nat} {j:Nat} (hq:ps[j]? =some q):(ps.map (·.1)).getD j bM=q.1:=by rw [List.getD_eq_getElem?_getD,List.getElem?_map,hq];rfl
theorem v8 (f:Nat->GEst×Nat->C) (l:List (GEst×Nat)) (j:Nat) (p:GEst×Nat) (c:GRat) (h:l[j]? =some p) (hf:f j (⟨c,p.1.claims,p.1.agrs⟩,p.2)=f j p):
  spl (eRw f l 0) (j*5) (cS c)=eRw f (l.set j (⟨c,p.1.claims,p.1.agrs⟩,p.2)) 0:=by
 have hlt:j<l.length:=(List.getElem?_eq_some_iff.1 h).1;have h':(l.set j (⟨c,p.1.claims,p.1.agrs⟩,p.2))[j]? =some (⟨c,p.1.claims,p.1.agrs⟩,p.2):=by simp [hlt]
 have e1:(l.set j (⟨c,p.1.claims,p.1.agrs⟩,p.2)).take j=l.take j:=by rw [List.take_set];exact List.set_eq_of_length_le (by rw [List.length_take];omega)
 have e2:(l.set j (⟨c,p.1.claims,p.1.agrs⟩,p.2)).drop (j+1)=l.drop (j+1):=by rw [List.drop_set];simp
 rw [jZ f l j p h,jZ f _ j _ h',e1,e2,hf];have t:=mR f l j hlt;unfold spl;rw [List.take_append_of_le_length (by omega),List.take_of_length_le (by omega),List.drop_append,List.drop_of_length_le (by omega),t];have:j*5+(cS c).length-j*5=3:=by simp [cS]
 rw [this];simp [cS]
theorem JV (l:List (GEst×Nat)) (j:Nat) (p:GEst×Nat) (cl:List GClaim) (t:Nat) (h:l[j]? =some p):
  (eRw (aR 103) l 0).set (j*5+3) (.own (1000*(j+1)+103) t cl.length 5)=eRw (aR 103) (l.set j (⟨p.1.cash,cl,p.1.agrs⟩,t)) 0:=
 pA (aR 103) (aR 103) l j p (⟨p.1.cash,cl,p.1.agrs⟩,t) h rfl rfl fun _ _ _ _=>rfl
theorem mj (l:List (GEst×Nat)) (j:Nat) (p:GEst×Nat) (h:l[j]? =some p):((eRw (aR 103) l 0).drop (j*5)).take 3=cS p.1.cash:=by rw [yK _ _ _ _ h];rfl
theorem zj {H:Hp} {E:TypeId} {ps:List (GEst×Nat)} {j:Nat} {q:GEst×Nat} (c:GRat) (hq:ps[j]? =some q) (ht:∀i r,ps[i]? =some r->H (1000*(i+1)+103)=some ⟨r.2,E,5,r.1.claims.length,ar aA r.1.claims⟩):
  ∀i r,(ps.set j (⟨c,q.1.claims,q.1.agrs⟩,q.2))[i]? =some r->H (1000*(i+1)+103)=some ⟨r.2,E,5,r.1.claims.length,ar aA r.1.claims⟩:=fun i r hr=>by
 by_cases hij:i=j
 ·subst hij;rw [List.getElem?_set_self (List.getElem?_eq_some_iff.1 hq).1] at hr;obtain rfl:=Option.some.inj hr;have:=ht _ _ hq;exact this
 rw [List.getElem?_set_ne (fun e=>hij e.symm)] at hr;exact ht _ _ hr
def pyP (ps:List (GEst×Nat)) (n9 s:Nat) (est hold rank:Int) (amt:GRat) (H:Hp) (res:AV) (H':Hp):Prop:=
 res=one (.int .i64 (pyC (ps.map (·.1)) est hold rank amt))/\(∀y B,y≠220->y%1000≠103->H y=some B->H' y=some B)/\(pyC (ps.map (·.1)) est hold rank amt=0->∃ps',ps'.map (·.1)=zz (ps.map (·.1)) est hold rank amt/\H' 220=some ⟨s,36,5,n9,eRw (aR 103) ps' 0⟩/\∀j q,ps'[j]? =some q->H' (1000*(j+1)+103)=some ⟨q.2,38,5,q.1.claims.length,ar aA q.1.claims⟩)
theorem nz {ps:List (GEst×Nat)} {n9 s:Nat} {est hold rank v:Int} {amt:GRat} {H H':Hp} (hp:pyC (ps.map (·.1)) est hold rank amt=v) (hv:¬v=0) (hk:∀y B,y≠220->y%1000≠103->H y=some B->H' y=some B):pyP ps n9 s est hold rank amt H (.val (.one (.lit (.int .i64 v)))) H':=
 ⟨by rw [hp],hk,fun h=>absurd (hp.symm.trans h) hv⟩
theorem Kj {ps:List (GEst×Nat)} {n9 s:Nat} {est hold rank:Int} {amt:GRat} {H H':Hp} (hp:pyC (ps.map (·.1)) est hold rank amt=0) (hk:∀y B,y≠220->y%1000≠103->H y=some B->H' y=some B)
  (hx:∃ps',ps'.map (·.1)=zz (ps.map (·.1)) est hold rank amt/\H' 220=some ⟨s,36,5,n9,eRw (aR 103) ps' 0⟩/\∀j q,ps'[j]? =some q->H' (1000*(j+1)+103)=some ⟨q.2,38,5,q.1.claims.length,ar aA q.1.claims⟩):pyP ps n9 s est hold rank amt H (.val (.one (.lit (.int .i64 0)))) H':=
 ⟨by rw [hp],hk,fun _=>hx⟩
section
variable {P : Program} {e : En} {k0 : Kx} {N : Nat} {st : St} {Q : Exit → St → Prop} {c : Code}
theorem JK (nm nm' nm2 off:Nat) {s n sz:Nat} {B B2:Blk} (hB:st.H nm=some B) (hB2:st.H nm2=some B2) (hc:B2.cs[off]? =some (.own nm s n sz)) (hne:nm2≠nm) (hne':nm2≠nm') (hsz:B.sz≠0) (hsz2:B2.sz≠0) (hs:B.st=s)
  (h:∀t,Awp P e k0 N c Q ⟨st.tm,up (up (up st.H nm none) nm' (some ⟨t,B.E,B.sz,B.n,B.cs⟩)) nm2 (some {B2 with cs:=B2.cs.set off (.own nm' t n sz)}),t+1,st.nb⟩):Awp P e k0 N c Q st:=eO nm nm' nm2 off hB hB2 hc hne hne' hsz hsz2 hs (h st.nx)
end
def F54:=And.intro zS (And.intro KF (And.intro pj (And.intro u6 (And.intro yG (And.intro pk (And.intro tv (And.intro Ai (And.intro Aj (And.intro zD (And.intro Ak (And.intro tx (And.intro tz (And.intro jS (And.intro xd (And.intro Al (po))))))))))))))))
theorem F55:type_of%F54:=F54
theorem Mt (ps:List (GEst×Nat)) (ds:List GDebt) (est hold rank:Int) (amt:GRat) (n9 s K A:Nat) (H:Hp) (ny:Nat) (hpn:n9=ps.length) (hn9:n9<=1000000) (ham:sB A amt) (hA0:0<A) (hA1:A<=1000000) (hK0:0<K) (hK1:K<=40000000000) (hsz:∀q∈ps,sB K q.1.cash) (hcl:∀q∈ps,q.1.claims.length<=1000000)
  (h220:H 220=some ⟨s,36,5,n9,eRw (aR 103) ps 0⟩) (htab:∀j q,ps[j]? =some q->H (1000*(j+1)+103)=some ⟨q.2,38,5,q.1.claims.length,ar aA q.1.claims⟩) (hbH:∀y B,H y=some B->y<2000∨y%1000=103):dk prog 39 [.agg [.own 220 s n9 5,.sh 4 ds.length (ar cn ds)],.agg [.lit (.int .i64 est),.lit (.int .i64 hold),.lit (.int .i64 rank),.lit (.bool amt.neg),.lit (.string amt.num),.lit (.string amt.den)]] H ny
  (fun res H' _=>pyP ps n9 s est hold rank amt H res H'):=by
 have hrl:(eRw (aR 103) ps 0).length=n9*5:=by rw [kz,hpn]
 have hcq9:cqR amt:=⟨Nat.le_trans ham.1 (by omega),Nat.le_trans ham.2 (by omega)⟩;refine fm 2000 func39 rfl (by decide) (N:=147) rfl (by simp) (Rl:=[.tmp 4]) rfl fun en k0=>?_
 refine awN ?_;simp only [F55,seval,cS];repeat refine ob ?_
 refine awN ?_;simp only [F55,seval,cS,h220];repeat refine ob ?_
 by_cases h1:est<0
 ·refine awR [] [0,0,0,0,32,32,32,32,0,0] ?_;simp only [F55,seval,cS,h1];repeat refine ob ?_
  refine awT ?_;refine awN ?_;simp only [F55,seval,cS,h1];repeat refine ob ?_
  have hpy:pyC (ps.map (·.1)) est hold rank amt=1:=by
   unfold pyC;rw [List.length_map,←hpn];simp only [Int.toNat_natCast,h1,or_false,false_or,or_true,true_or,and_false,false_and,and_true,true_and,not_true_eq_false,not_false_eq_true,if_true,if_false,reduceIte]
  refine awX ?_;try simp only [F55,seval]
  exact nz hpy (by decide) (fun y B hy1 hy2 hB=>by
   have h8:=hbH y B hB;simp only [aj];repeat rw [if_neg (by omega)]
   exact hB)
 by_cases h2:(n9:Int)<=est
 ·refine awR [] [0,0,0,0,32,32,32,32,0,0] ?_;simp only [F55,seval,cS,h1,h2];repeat refine ob ?_
  refine awT ?_;refine awN ?_;simp only [F55,seval,cS,h1,h2];repeat refine ob ?_
  have hpy:pyC (ps.map (·.1)) est hold rank amt=1:=by
   unfold pyC;rw [List.length_map,←hpn];simp only [Int.toNat_natCast,h1,h2,or_false,false_or,or_true,true_or,and_false,false_and,and_true,true_and,not_true_eq_false,not_false_eq_true,if_true,if_false,reduceIte]
  refine awX ?_;try simp only [F55,seval]
  exact nz hpy (by decide) (fun y B hy1 hy2 hB=>by
   have h8:=hbH y B hB;simp only [aj];repeat rw [if_neg (by omega)]
   exact hB)
 obtain ⟨j,rfl⟩:∃j:Nat,est=(j:Int):=⟨est.toNat,by omega⟩;have hjl:j<ps.length:=by omega
 obtain ⟨q,hq⟩:∃q,ps[j]? =some q:=⟨_,List.getElem?_eq_getElem hjl⟩;have hcq:=mj ps j q hq;have hqs:=hsz q (List.mem_of_getElem? hq);have hget:=pz (aR 103) ps j q hq;have hfo:aR 103 j q= .own (1000*(j+1)+103) q.2 q.1.claims.length 5:=rfl;rw [hfo] at hget;have htb:=htab j q hq;obtain ⟨b9,hb9⟩:∃b,b=1000*(j+1)+103:=⟨_,rfl⟩;rw [←hb9] at hget htb;have F9:∀c,c%1000≠103->((b9=c)=False/\(c=b9)=False):=fun c hc=>⟨by simp;omega,by simp;omega⟩
 simp only [cS] at hcq;refine awR [] [0,0,0,0,32,32,32,32,0,0] ?_;simp only [F55,seval,cS,h1,h2];repeat refine ob ?_
 refine awF ?_;by_cases h3:hold= -1
 ·subst h3;have hm1:((-1:Int)=(j:Int))=False:=eq_false (by omega);refine awR [] [0,0,0,0,53,53,53,53,60,60,60,60,53,0,0,74,74,74,74,74,0,0] ?_;simp only [F55,seval,cS,h1,h2,hm1];repeat refine ob ?_
  refine awF ?_;by_cases h7:rank= -1
  ·subst h7;refine awR [] [0,0,0,0,97,97,97,97,104,104,104,97,0,0] ?_;simp only [F55,seval,cS,h1,h2,hm1];repeat refine ob ?_
   refine awF ?_;by_cases h10:aL (qOf amt)<0
   ·have hSg:=rR amt (by have:=ham.1;omega) (by have:=ham.2;omega);simp only [cS] at hSg;refine awN ?_;simp only [F55,seval,cS,h1,h2,hm1,h10];repeat refine ob ?_
    refine ⟨_,hSg,rfl,?_⟩;try simp only [aq,F55,seval,cS,h1,h2,hm1,h10]
    repeat refine ob ?_
    refine awT ?_;refine awN ?_;simp only [F55,seval,cS,h1,h2,hm1,h10];repeat refine ob ?_
    have hpy:pyC (ps.map (·.1)) (j:Int) (-1) (-1) amt=7:=by
     unfold pyC;rw [List.length_map,←hpn];simp only [Int.toNat_natCast,fd hq,h1,h2,h10,hm1,or_false,false_or,or_true,true_or,and_false,false_and,and_true,true_and,not_true_eq_false,not_false_eq_true,if_true,if_false,reduceIte]
    refine awX ?_;try simp only [F55,seval]
    exact nz hpy (by decide) (fun y B hy1 hy2 hB=>by
     have h8:=hbH y B hB;simp only [aj];repeat rw [if_neg (by omega)]
     exact hB)
   have hSg:=rR amt (by have:=ham.1;omega) (by have:=ham.2;omega);simp only [cS] at hSg;refine awN ?_;simp only [F55,seval,cS,h1,h2,hm1,h10];repeat refine ob ?_
   refine ⟨_,hSg,rfl,?_⟩;try simp only [aq,F55,seval,cS,h1,h2,hm1,h10]
   repeat refine ob ?_
   refine awF ?_;refine awD (scT 0 13 (scq [26,29,31,33] .nil)) [0,0,0,0,135,135,135,135,135,135,135,135,135,135,135,0,0] ?_;simp only [F55,seval,cS,h1,h2,hm1,h10];repeat refine ob ?_
   refine awF ?_;refine awR [] [0,0,0,0,169,169,169,169,169,169,169,169,169,0,0] ?_;simp only [F55,seval,cS,h1,h2,hm1,h10];repeat refine ob ?_
   refine awF ?_;refine awK ?_;simp only [F55,seval];refine awN ?_;simp only [F55,seval,cS,h1,h2,hm1,h10,h220,hrl];repeat refine ob ?_
   have hAd:=EW q.1.cash amt K A hqs ham (by omega) (by omega) hK0 hA0;have hw1:=v8 (aR 103) ps j q (enc (qOf q.1.cash+qOf amt)) hq rfl;simp only [cS] at hAd hw1;refine awD (scT 0 7 (scq [14,17,19,20] .nil)) [0,0,0,0,0,0,0,0,0,0,0] ?_;simp only [F55,seval,cS,h1,h2,hm1,h10,h220,hcq,hrl,hw1];repeat refine ob ?_
   refine ⟨_,hAd,rfl,?_⟩;try simp only [aq,F55,seval,cS,h1,h2,hm1,h10,h220,hcq,hrl,hw1]
   repeat refine ob ?_
   obtain ⟨p1,hp1⟩:∃p,p=ps.set j (⟨enc (qOf q.1.cash+qOf amt),q.1.claims,q.1.agrs⟩,q.2):=⟨_,rfl⟩;rw [←hp1];have hl1:p1.length=n9:=by rw [hp1,List.length_set];exact hpn.symm
   have hr1:(eRw (aR 103) p1 0).length=n9*5:=by rw [kz,hl1]
   have hmz1:upE (ps.map (·.1)) j (adE (qOf amt))=p1.map (·.1):=by rw [hp1];exact (zp (adE _) q.2 hq).symm
   have h1j:p1[j]? =some (⟨enc (qOf q.1.cash+qOf amt),q.1.claims,q.1.agrs⟩,q.2):=by rw [hp1,List.getElem?_set_self hjl]
   have ht1:∀i r,p1[i]? =some r->H (1000*(i+1)+103)=some ⟨r.2,38,5,r.1.claims.length,ar aA r.1.claims⟩:=by rw [hp1];exact zj _ hq htab
   refine awN ?_;simp only [F55,seval,cS,h1,h2,hm1,h10];repeat refine ob ?_
   refine awF ?_;refine awK ?_;simp only [F55,seval];refine awN ?_;simp only [F55,seval,cS,h1,h2,hm1,h10];repeat refine ob ?_
   refine awF ?_;refine awK ?_;simp only [F55,seval];refine awN ?_;simp only [F55,seval,cS,h1,h2,hm1,h10];repeat refine ob ?_
   have hpy:pyC (ps.map (·.1)) (j:Int) (-1) (-1) amt=0:=by
    unfold pyC;rw [List.length_map,←hpn];simp only [Int.toNat_natCast,fd hq,h1,h2,h10,hm1,or_false,false_or,or_true,true_or,and_false,false_and,and_true,true_and,not_true_eq_false,not_false_eq_true,if_true,if_false,reduceIte]
   have hpe:zz (ps.map (·.1)) (j:Int) (-1) (-1) amt=p1.map (·.1):=by
    unfold zz;simp only [Int.toNat_natCast,hmz1,if_true,if_false,reduceIte]
   refine awX ?_;try simp only [F55,seval]
   refine Kj hpy (fun y B hy1 hy2 hB=>by
    have h8:=hbH y B hB;simp only [aj];repeat rw [if_neg (by omega)]
    exact hB) ⟨p1,by rw [hpe],?_,fun i r hr=>?_⟩
   ·first|rfl|(simp only [aj];rfl)|(simp [aj];done)
   have h9:=ht1 i r hr;simp only [aj];repeat rw [if_neg (by omega)]
   exact h9
  have h7n:(rank= -1)=False:=eq_false h7;by_cases h8:rank<2
  ·refine awR [] [0,0,0,0,97,97,97,97,104,104,104,97,0,0] ?_;simp only [F55,seval,cS,h1,h2,hm1,h7n,h8];repeat refine ob ?_
   refine awT ?_;refine awN ?_;simp only [F55,seval,cS,h1,h2,hm1,h7n,h8];repeat refine ob ?_
   have hpy:pyC (ps.map (·.1)) (j:Int) (-1) rank amt=1:=by
    unfold pyC;rw [List.length_map,←hpn];simp only [Int.toNat_natCast,h1,h2,h8,hm1,h7n,or_false,false_or,or_true,true_or,and_false,false_and,and_true,true_and,not_true_eq_false,not_false_eq_true,if_true,if_false,reduceIte]
   refine awX ?_;try simp only [F55,seval]
   exact nz hpy (by decide) (fun y B hy1 hy2 hB=>by
    have h8:=hbH y B hB;simp only [aj];repeat rw [if_neg (by omega)]
    exact hB)
  by_cases h9:7<rank
  ·refine awR [] [0,0,0,0,97,97,97,97,104,104,104,97,0,0] ?_;simp only [F55,seval,cS,h1,h2,hm1,h7n,h8,h9];repeat refine ob ?_
   refine awT ?_;refine awN ?_;simp only [F55,seval,cS,h1,h2,hm1,h7n,h8,h9];repeat refine ob ?_
   have hpy:pyC (ps.map (·.1)) (j:Int) (-1) rank amt=1:=by
    unfold pyC;rw [List.length_map,←hpn];simp only [Int.toNat_natCast,h1,h2,h8,h9,hm1,h7n,or_false,false_or,or_true,true_or,and_false,false_and,and_true,true_and,not_true_eq_false,not_false_eq_true,if_true,if_false,reduceIte]
   refine awX ?_;try simp only [F55,seval]
   exact nz hpy (by decide) (fun y B hy1 hy2 hB=>by
    have h8:=hbH y B hB;simp only [aj];repeat rw [if_neg (by omega)]
    exact hB)
  refine awR [] [0,0,0,0,97,97,97,97,104,104,104,97,0,0] ?_;simp only [F55,seval,cS,h1,h2,hm1,h7n,h8,h9];repeat refine ob ?_
  refine awF ?_;by_cases h10:aL (qOf amt)<0
  ·have hSg:=rR amt (by have:=ham.1;omega) (by have:=ham.2;omega);simp only [cS] at hSg;refine awN ?_;simp only [F55,seval,cS,h1,h2,hm1,h7n,h8,h9,h10];repeat refine ob ?_
   refine ⟨_,hSg,rfl,?_⟩;try simp only [aq,F55,seval,cS,h1,h2,hm1,h7n,h8,h9,h10]
   repeat refine ob ?_
   refine awT ?_;refine awN ?_;simp only [F55,seval,cS,h1,h2,hm1,h7n,h8,h9,h10];repeat refine ob ?_
   have hpy:pyC (ps.map (·.1)) (j:Int) (-1) rank amt=7:=by
    unfold pyC;rw [List.length_map,←hpn];simp only [Int.toNat_natCast,fd hq,h1,h2,h8,h9,h10,hm1,h7n,or_false,false_or,or_true,true_or,and_false,false_and,and_true,true_and,not_true_eq_false,not_false_eq_true,if_true,if_false,reduceIte]
   refine awX ?_;try simp only [F55,seval]
   exact nz hpy (by decide) (fun y B hy1 hy2 hB=>by
    have h8:=hbH y B hB;simp only [aj];repeat rw [if_neg (by omega)]
    exact hB)
  have hSg:=rR amt (by have:=ham.1;omega) (by have:=ham.2;omega);simp only [cS] at hSg;refine awN ?_;simp only [F55,seval,cS,h1,h2,hm1,h7n,h8,h9,h10];repeat refine ob ?_
  refine ⟨_,hSg,rfl,?_⟩;try simp only [aq,F55,seval,cS,h1,h2,hm1,h7n,h8,h9,h10]
  repeat refine ob ?_
  refine awF ?_;refine awD (scT 0 13 (scq [26,29,31,33] .nil)) [0,0,0,0,135,135,135,135,135,135,135,135,135,135,135,0,0] ?_;simp only [F55,seval,cS,h1,h2,hm1,h7n,h8,h9,h10];repeat refine ob ?_
  refine awF ?_;by_cases h12:(24:Int)<=(q.1.claims.length:Int)
  ·refine awR [] [0,0,0,0,169,169,169,169,169,169,169,169,169,0,0] ?_;simp only [F55,seval,cS,h1,h2,hm1,h7n,h8,h9,h10,h12,h220,hget,F9,htb,hrl];repeat refine ob ?_
   refine awT ?_;refine awN ?_;simp only [F55,seval,cS,h1,h2,hm1,h7n,h8,h9,h10,h12];repeat refine ob ?_
   have hpy:pyC (ps.map (·.1)) (j:Int) (-1) rank amt=2:=by
    unfold pyC;rw [List.length_map,←hpn];simp only [Int.toNat_natCast,fd hq,h1,h2,h8,h9,h10,h12,hm1,h7n,or_false,false_or,or_true,true_or,and_false,false_and,and_true,true_and,not_true_eq_false,not_false_eq_true,if_true,if_false,reduceIte]
   refine awX ?_;try simp only [F55,seval]
   exact nz hpy (by decide) (fun y B hy1 hy2 hB=>by
    have h8:=hbH y B hB;simp only [aj];repeat rw [if_neg (by omega)]
    exact hB)
  refine awR [] [0,0,0,0,169,169,169,169,169,169,169,169,169,0,0] ?_;simp only [F55,seval,cS,h1,h2,hm1,h7n,h8,h9,h10,h12,h220,hget,F9,htb,hrl];repeat refine ob ?_
  refine awF ?_;refine awK ?_;simp only [F55,seval];refine awN ?_;simp only [F55,seval,cS,h1,h2,hm1,h7n,h8,h9,h10,h12,h220,hrl];repeat refine ob ?_
  have hAd:=EW q.1.cash amt K A hqs ham (by omega) (by omega) hK0 hA0;have hw1:=v8 (aR 103) ps j q (enc (qOf q.1.cash+qOf amt)) hq rfl;simp only [cS] at hAd hw1;refine awD (scT 0 7 (scq [14,17,19,20] .nil)) [0,0,0,0,0,0,0,0,0,0,0] ?_;simp only [F55,seval,cS,h1,h2,hm1,h7n,h8,h9,h10,h12,h220,hcq,hrl,hw1];repeat refine ob ?_
  refine ⟨_,hAd,rfl,?_⟩;try simp only [aq,F55,seval,cS,h1,h2,hm1,h7n,h8,h9,h10,h12,h220,hcq,hrl,hw1]
  repeat refine ob ?_
  obtain ⟨p1,hp1⟩:∃p,p=ps.set j (⟨enc (qOf q.1.cash+qOf amt),q.1.claims,q.1.agrs⟩,q.2):=⟨_,rfl⟩;rw [←hp1];have hl1:p1.length=n9:=by rw [hp1,List.length_set];exact hpn.symm
  have hr1:(eRw (aR 103) p1 0).length=n9*5:=by rw [kz,hl1]
  have hmz1:upE (ps.map (·.1)) j (adE (qOf amt))=p1.map (·.1):=by rw [hp1];exact (zp (adE _) q.2 hq).symm
  have h1j:p1[j]? =some (⟨enc (qOf q.1.cash+qOf amt),q.1.claims,q.1.agrs⟩,q.2):=by rw [hp1,List.getElem?_set_self hjl]
  have ht1:∀i r,p1[i]? =some r->H (1000*(i+1)+103)=some ⟨r.2,38,5,r.1.claims.length,ar aA r.1.claims⟩:=by rw [hp1];exact zj _ hq htab
  refine awN ?_;simp only [F55,seval,cS,h1,h2,hm1,h7n,h8,h9,h10,h12];repeat refine ob ?_
  refine awF ?_;refine awK ?_;simp only [F55,seval];refine awN ?_;simp only [F55,seval,cS,h1,h2,hm1,h7n,h8,h9,h10,h12];repeat refine ob ?_
  refine awT ?_;have hgz:=pz (aR 103) p1 j _ h1j;have hfz:aR 103 j (⟨enc (qOf q.1.cash+qOf amt),q.1.claims,q.1.agrs⟩,q.2)= .own b9 q.2 q.1.claims.length 5:=by rw [hb9];rfl
  rw [hfz] at hgz;have hrz:(eRw (aR 103) p1 0).length=n9*5:=by rw [kz,hl1]
  have hs1:∀c:C,spl (eRw (aR 103) p1 0) (j*5+3) [c]=(eRw (aR 103) p1 0).set (j*5+3) c:=fun c=>bY _ _ _ (by rw [hrz];omega)
  have hqc:=hcl q (List.mem_of_getElem? hq);have hCa:=JD amt hcq9;simp only [cS] at hCa;have hnc:ar aA q.1.claims++[.lit (.int .i64 (-1)),.lit (.int .i64 rank),.lit (.bool (clR amt).neg),.lit (.string (clR amt).num),.lit (.string (clR amt).den)]=ar aA (q.1.claims++[⟨(-1),rank,clR amt⟩]):=by rw [aV];simp [aY,ej,aA]
  refine awD (scT 0 11 (scq [22,25,26,28,31,33,34] .nil)) [0,0,0,0,0,0,0,0,0,0,0,0,0,0,0,0,0,0] ?_;simp only [F55,seval,cS,h1,h2,hm1,h7n,h8,h9,h10,h12,hgz,F9,htb,hrz,hs1,hnc];repeat refine ob ?_
  refine ⟨_,hCa,rfl,?_⟩;try simp only [aq,F55,seval,cS,h1,h2,hm1,h7n,h8,h9,h10,h12,hgz,F9,htb,hrz,hs1,hnc]
  repeat refine ob ?_
  refine JK 2144 b9 220 (j*5+3) (by rfl) (by rfl) (by show (List.set _ _ _)[_]? =_;exact List.getElem?_set_self (by rw [hrz];omega)) (by decide) (by omega) (by show (5:Nat)≠0;decide) (by show (5:Nat)≠0;decide) rfl (fun t9=>?_);have hcm:((eRw (aR 103) p1 0).set (j*5+3) (.own b9 t9 (q.1.claims.length+1) 5))=eRw (aR 103) (p1.set j (⟨enc (qOf q.1.cash+qOf amt),(q.1.claims++[⟨(-1),rank,clR amt⟩]),q.1.agrs⟩,t9)) 0:=by
   have h8:=JV p1 j _ (q.1.claims++[⟨(-1),rank,clR amt⟩]) t9 h1j;rw [List.length_append] at h8;rw [hb9];exact h8
  simp only [F55,seval,List.set_set,hcm];refine awN ?_;simp only [F55,seval,cS,h1,h2,hm1,h7n,h8,h9,h10,h12];repeat refine ob ?_
  have hpy:pyC (ps.map (·.1)) (j:Int) (-1) rank amt=0:=by
   unfold pyC;rw [List.length_map,←hpn];simp only [Int.toNat_natCast,fd hq,h1,h2,h8,h9,h10,h12,hm1,h7n,or_false,false_or,or_true,true_or,and_false,false_and,and_true,true_and,not_true_eq_false,not_false_eq_true,if_true,if_false,reduceIte]
  have hpe:zz (ps.map (·.1)) (j:Int) (-1) rank amt=upE (p1.map (·.1)) j (apE ⟨(-1),rank,clR amt⟩):=by
   unfold zz;simp only [Int.toNat_natCast,h7n,hmz1,if_true,if_false,reduceIte]
  refine awX ?_;try simp only [F55,seval]
  refine Kj hpy (fun y B hy1 hy2 hB=>by
   have h8:=hbH y B hB;simp only [aj];repeat rw [if_neg (by omega)]
   exact hB) ⟨(p1.set j (⟨enc (qOf q.1.cash+qOf amt),(q.1.claims++[⟨(-1),rank,clR amt⟩]),q.1.agrs⟩,t9)),by rw [hpe];exact zp (apE _) t9 h1j,?_,fun i r hr=>?_⟩
  ·first|rfl|(simp only [aj];rfl)|(simp [aj];done)
  by_cases hij:i=j
  ·subst hij;rw [List.getElem?_set_self (by omega)] at hr;obtain rfl:=Option.some.inj hr;rw [←hb9];simp only [aj];repeat (first|rw [if_pos rfl]|rw [if_neg (by omega)])
   simp
  rw [List.getElem?_set_ne (fun e=>hij e.symm)] at hr;have h9:=ht1 i r hr;simp only [aj];repeat rw [if_neg (by omega)]
  exact h9
 have h3n:(hold= -1)=False:=eq_false h3;by_cases h4:hold<0
 ·refine awR [] [0,0,0,0,53,53,53,53,60,60,60,60,53,0,0,74,74,74,74,74,0,0] ?_;simp only [F55,seval,cS,h1,h2,h3n,h4];repeat refine ob ?_
  refine awT ?_;refine awN ?_;simp only [F55,seval,cS,h1,h2,h3n,h4];repeat refine ob ?_
  have hpy:pyC (ps.map (·.1)) (j:Int) hold rank amt=19:=by
   unfold pyC;rw [List.length_map,←hpn];simp only [Int.toNat_natCast,h1,h2,h4,h3n,or_false,false_or,or_true,true_or,and_false,false_and,and_true,true_and,not_true_eq_false,not_false_eq_true,if_true,if_false,reduceIte]
  refine awX ?_;try simp only [F55,seval]
  exact nz hpy (by decide) (fun y B hy1 hy2 hB=>by
   have h8:=hbH y B hB;simp only [aj];repeat rw [if_neg (by omega)]
   exact hB)
 by_cases h5:(n9:Int)<=hold
 ·refine awR [] [0,0,0,0,53,53,53,53,60,60,60,60,53,0,0,74,74,74,74,74,0,0] ?_;simp only [F55,seval,cS,h1,h2,h3n,h4,h5];repeat refine ob ?_
  refine awT ?_;refine awN ?_;simp only [F55,seval,cS,h1,h2,h3n,h4,h5];repeat refine ob ?_
  have hpy:pyC (ps.map (·.1)) (j:Int) hold rank amt=19:=by
   unfold pyC;rw [List.length_map,←hpn];simp only [Int.toNat_natCast,h1,h2,h4,h5,h3n,or_false,false_or,or_true,true_or,and_false,false_and,and_true,true_and,not_true_eq_false,not_false_eq_true,if_true,if_false,reduceIte]
  refine awX ?_;try simp only [F55,seval]
  exact nz hpy (by decide) (fun y B hy1 hy2 hB=>by
   have h8:=hbH y B hB;simp only [aj];repeat rw [if_neg (by omega)]
   exact hB)
 by_cases h6:hold=(j:Int)
 ·subst h6;refine awR [] [0,0,0,0,53,53,53,53,60,60,60,60,53,0,0,74,74,74,74,74,0,0] ?_;simp only [F55,seval,cS,h1,h2,h3n,h4,h5];repeat refine ob ?_
  refine awT ?_;refine awN ?_;simp only [F55,seval,cS,h1,h2,h3n,h4,h5];repeat refine ob ?_
  have hpy:pyC (ps.map (·.1)) (j:Int) (j:Int) rank amt=19:=by
   unfold pyC;rw [List.length_map,←hpn];simp only [Int.toNat_natCast,h1,h2,h4,h5,h3n,or_false,false_or,or_true,true_or,and_false,false_and,and_true,true_and,not_true_eq_false,not_false_eq_true,if_true,if_false,reduceIte]
  refine awX ?_;try simp only [F55,seval]
  exact nz hpy (by decide) (fun y B hy1 hy2 hB=>by
   have h8:=hbH y B hB;simp only [aj];repeat rw [if_neg (by omega)]
   exact hB)
 have h6n:(hold=(j:Int))=False:=eq_false h6;refine awR [] [0,0,0,0,53,53,53,53,60,60,60,60,53,0,0,74,74,74,74,74,0,0] ?_;simp only [F55,seval,cS,h1,h2,h3n,h4,h5,h6n];repeat refine ob ?_
 refine awF ?_;by_cases h7:rank= -1
 ·subst h7;refine awR [] [0,0,0,0,97,97,97,97,104,104,104,97,0,0] ?_;simp only [F55,seval,cS,h1,h2,h3n,h4,h5,h6n];repeat refine ob ?_
  refine awF ?_;by_cases h10:aL (qOf amt)<0
  ·obtain ⟨h,rfl⟩:∃h:Nat,hold=(h:Int):=⟨hold.toNat,by omega⟩;have hhl:h<ps.length:=by omega
   have hne:h≠j:=by omega
   obtain ⟨qh,hqh⟩:∃q,ps[h]? =some q:=⟨_,List.getElem?_eq_getElem hhl⟩;have hch:=mj ps h qh hqh;have hqhs:=hsz qh (List.mem_of_getElem? hqh);have hKc:=CR qh.1.cash amt K A hqhs ham (by omega) (by omega) hK0 hA0;simp only [cS] at hch hKc;have hSg:=rR amt (by have:=ham.1;omega) (by have:=ham.2;omega);simp only [cS] at hSg;refine awN ?_;simp only [F55,seval,cS,h1,h2,h3n,h4,h5,h6n,h10];repeat refine ob ?_
   refine ⟨_,hSg,rfl,?_⟩;try simp only [aq,F55,seval,cS,h1,h2,h3n,h4,h5,h6n,h10]
   repeat refine ob ?_
   refine awT ?_;refine awN ?_;simp only [F55,seval,cS,h1,h2,h3n,h4,h5,h6n,h10];repeat refine ob ?_
   have hpy:pyC (ps.map (·.1)) (j:Int) (h:Int) (-1) amt=7:=by
    unfold pyC;rw [List.length_map,←hpn];simp only [Int.toNat_natCast,fd hq,fd hqh,h1,h2,h4,h5,h10,h3n,h6n,or_false,false_or,or_true,true_or,and_false,false_and,and_true,true_and,not_true_eq_false,not_false_eq_true,if_true,if_false,reduceIte]
   refine awX ?_;try simp only [F55,seval]
   exact nz hpy (by decide) (fun y B hy1 hy2 hB=>by
    have h8:=hbH y B hB;simp only [aj];repeat rw [if_neg (by omega)]
    exact hB)
  obtain ⟨h,rfl⟩:∃h:Nat,hold=(h:Int):=⟨hold.toNat,by omega⟩;have hhl:h<ps.length:=by omega
  have hne:h≠j:=by omega
  obtain ⟨qh,hqh⟩:∃q,ps[h]? =some q:=⟨_,List.getElem?_eq_getElem hhl⟩;have hch:=mj ps h qh hqh;have hqhs:=hsz qh (List.mem_of_getElem? hqh);have hKc:=CR qh.1.cash amt K A hqhs ham (by omega) (by omega) hK0 hA0;simp only [cS] at hch hKc;have hSg:=rR amt (by have:=ham.1;omega) (by have:=ham.2;omega);simp only [cS] at hSg;refine awN ?_;simp only [F55,seval,cS,h1,h2,h3n,h4,h5,h6n,h10];repeat refine ob ?_
  refine ⟨_,hSg,rfl,?_⟩;try simp only [aq,F55,seval,cS,h1,h2,h3n,h4,h5,h6n,h10]
  repeat refine ob ?_
  refine awF ?_;by_cases h11:fV (qOf qh.1.cash) (qOf amt)<0
  ·refine awD (scT 0 13 (scq [26,29,31,33] .nil)) [0,0,0,0,135,135,135,135,135,135,135,135,135,135,135,0,0] ?_;simp only [F55,seval,cS,h1,h2,h3n,h4,h5,h6n,h10,h11,h220,hch,hrl];repeat refine ob ?_
   refine ⟨_,hKc,rfl,?_⟩;try simp only [aq,F55,seval,cS,h1,h2,h3n,h4,h5,h6n,h10,h11,h220,hch,hrl]
   repeat refine ob ?_
   refine awT ?_;refine awN ?_;simp only [F55,seval,cS,h1,h2,h3n,h4,h5,h6n,h10,h11];repeat refine ob ?_
   have hpy:pyC (ps.map (·.1)) (j:Int) (h:Int) (-1) amt=50:=by
    unfold pyC;rw [List.length_map,←hpn];simp only [Int.toNat_natCast,fd hq,fd hqh,h1,h2,h4,h5,h10,h11,h3n,h6n,or_false,false_or,or_true,true_or,and_false,false_and,and_true,true_and,not_true_eq_false,not_false_eq_true,if_true,if_false,reduceIte]
   refine awX ?_;try simp only [F55,seval]
   exact nz hpy (by decide) (fun y B hy1 hy2 hB=>by
    have h8:=hbH y B hB;simp only [aj];repeat rw [if_neg (by omega)]
    exact hB)
  refine awD (scT 0 13 (scq [26,29,31,33] .nil)) [0,0,0,0,135,135,135,135,135,135,135,135,135,135,135,0,0] ?_;simp only [F55,seval,cS,h1,h2,h3n,h4,h5,h6n,h10,h11,h220,hch,hrl];repeat refine ob ?_
  refine ⟨_,hKc,rfl,?_⟩;try simp only [aq,F55,seval,cS,h1,h2,h3n,h4,h5,h6n,h10,h11,h220,hch,hrl]
  repeat refine ob ?_
  refine awF ?_;refine awR [] [0,0,0,0,169,169,169,169,169,169,169,169,169,0,0] ?_;simp only [F55,seval,cS,h1,h2,h3n,h4,h5,h6n,h10,h11];repeat refine ob ?_
  refine awF ?_;refine awK ?_;simp only [F55,seval];refine awN ?_;simp only [F55,seval,cS,h1,h2,h3n,h4,h5,h6n,h10,h11,h220,hrl];repeat refine ob ?_
  have hAd:=EW q.1.cash amt K A hqs ham (by omega) (by omega) hK0 hA0;have hw1:=v8 (aR 103) ps j q (enc (qOf q.1.cash+qOf amt)) hq rfl;simp only [cS] at hAd hw1;refine awD (scT 0 7 (scq [14,17,19,20] .nil)) [0,0,0,0,0,0,0,0,0,0,0] ?_;simp only [F55,seval,cS,h1,h2,h3n,h4,h5,h6n,h10,h11,h220,hcq,hrl,hw1];repeat refine ob ?_
  refine ⟨_,hAd,rfl,?_⟩;try simp only [aq,F55,seval,cS,h1,h2,h3n,h4,h5,h6n,h10,h11,h220,hcq,hrl,hw1]
  repeat refine ob ?_
  obtain ⟨p1,hp1⟩:∃p,p=ps.set j (⟨enc (qOf q.1.cash+qOf amt),q.1.claims,q.1.agrs⟩,q.2):=⟨_,rfl⟩;rw [←hp1];have hl1:p1.length=n9:=by rw [hp1,List.length_set];exact hpn.symm
  have hr1:(eRw (aR 103) p1 0).length=n9*5:=by rw [kz,hl1]
  have hmz1:upE (ps.map (·.1)) j (adE (qOf amt))=p1.map (·.1):=by rw [hp1];exact (zp (adE _) q.2 hq).symm
  have h1j:p1[j]? =some (⟨enc (qOf q.1.cash+qOf amt),q.1.claims,q.1.agrs⟩,q.2):=by rw [hp1,List.getElem?_set_self hjl]
  have ht1:∀i r,p1[i]? =some r->H (1000*(i+1)+103)=some ⟨r.2,38,5,r.1.claims.length,ar aA r.1.claims⟩:=by rw [hp1];exact zj _ hq htab
  refine awN ?_;simp only [F55,seval,cS,h1,h2,h3n,h4,h5,h6n,h10,h11];repeat refine ob ?_
  refine awT ?_;refine awN ?_;simp only [F55,seval,cS,h1,h2,h3n,h4,h5,h6n,h10,h11,hr1];repeat refine ob ?_
  have hSb:=EX qh.1.cash amt K A hqhs ham (by omega) (by omega) hK0 hA0;have hqh1:p1[h]? =some qh:=by rw [hp1,List.getElem?_set_ne (fun e=>hne e.symm)];exact hqh
  have hch1:=mj p1 h qh hqh1;have hw2:=v8 (aR 103) p1 h qh (enc (qOf qh.1.cash-qOf amt)) hqh1 rfl;simp only [cS] at hSb hw2 hch1;refine awD (scT 0 7 (scq [14,17,19,20] .nil)) [0,0,0,0,0,0,0,0,0,0,0] ?_;simp only [F55,seval,cS,h1,h2,h3n,h4,h5,h6n,h10,h11,hch1,hr1,hw2];repeat refine ob ?_
  refine ⟨_,hSb,rfl,?_⟩;try simp only [aq,F55,seval,cS,h1,h2,h3n,h4,h5,h6n,h10,h11,hch1,hr1,hw2]
  repeat refine ob ?_
  obtain ⟨p2,hp2⟩:∃p,p=p1.set h (⟨enc (qOf qh.1.cash-qOf amt),qh.1.claims,qh.1.agrs⟩,qh.2):=⟨_,rfl⟩;rw [←hp2];have hl2:p2.length=n9:=by rw [hp2,List.length_set];exact hl1
  have hmz2:upE (p1.map (·.1)) h (sbE (qOf amt))=p2.map (·.1):=by rw [hp2];exact (zp (sbE _) qh.2 hqh1).symm
  have h2j:p2[j]? =some (⟨enc (qOf q.1.cash+qOf amt),q.1.claims,q.1.agrs⟩,q.2):=by rw [hp2,List.getElem?_set_ne hne];exact h1j
  have ht2:∀i r,p2[i]? =some r->H (1000*(i+1)+103)=some ⟨r.2,38,5,r.1.claims.length,ar aA r.1.claims⟩:=by rw [hp2];exact zj _ hqh1 ht1
  refine awN ?_;simp only [F55,seval,cS,h1,h2,h3n,h4,h5,h6n,h10,h11];repeat refine ob ?_
  refine awF ?_;refine awK ?_;simp only [F55,seval];refine awN ?_;simp only [F55,seval,cS,h1,h2,h3n,h4,h5,h6n,h10,h11];repeat refine ob ?_
  have hpy:pyC (ps.map (·.1)) (j:Int) (h:Int) (-1) amt=0:=by
   unfold pyC;rw [List.length_map,←hpn];simp only [Int.toNat_natCast,fd hq,fd hqh,h1,h2,h4,h5,h10,h11,h3n,h6n,or_false,false_or,or_true,true_or,and_false,false_and,and_true,true_and,not_true_eq_false,not_false_eq_true,if_true,if_false,reduceIte]
  have hpe:zz (ps.map (·.1)) (j:Int) (h:Int) (-1) amt=p2.map (·.1):=by
   unfold zz;simp only [Int.toNat_natCast,h3n,hmz1,if_true,if_false,reduceIte,hmz2]
  refine awX ?_;try simp only [F55,seval]
  refine Kj hpy (fun y B hy1 hy2 hB=>by
   have h8:=hbH y B hB;simp only [aj];repeat rw [if_neg (by omega)]
   exact hB) ⟨p2,by rw [hpe],?_,fun i r hr=>?_⟩
  ·first|rfl|(simp only [aj];rfl)|(simp [aj];done)
  have h9:=ht2 i r hr;simp only [aj];repeat rw [if_neg (by omega)]
  exact h9
 have h7n:(rank= -1)=False:=eq_false h7;by_cases h8:rank<2
 ·refine awR [] [0,0,0,0,97,97,97,97,104,104,104,97,0,0] ?_;simp only [F55,seval,cS,h1,h2,h3n,h4,h5,h6n,h7n,h8];repeat refine ob ?_
  refine awT ?_;refine awN ?_;simp only [F55,seval,cS,h1,h2,h3n,h4,h5,h6n,h7n,h8];repeat refine ob ?_
  have hpy:pyC (ps.map (·.1)) (j:Int) hold rank amt=1:=by
   unfold pyC;rw [List.length_map,←hpn];simp only [Int.toNat_natCast,h1,h2,h4,h5,h8,h3n,h6n,h7n,or_false,false_or,or_true,true_or,and_false,false_and,and_true,true_and,not_true_eq_false,not_false_eq_true,if_true,if_false,reduceIte]
  refine awX ?_;try simp only [F55,seval]
  exact nz hpy (by decide) (fun y B hy1 hy2 hB=>by
   have h8:=hbH y B hB;simp only [aj];repeat rw [if_neg (by omega)]
   exact hB)
 by_cases h9:7<rank
 ·refine awR [] [0,0,0,0,97,97,97,97,104,104,104,97,0,0] ?_;simp only [F55,seval,cS,h1,h2,h3n,h4,h5,h6n,h7n,h8,h9];repeat refine ob ?_
  refine awT ?_;refine awN ?_;simp only [F55,seval,cS,h1,h2,h3n,h4,h5,h6n,h7n,h8,h9];repeat refine ob ?_
  have hpy:pyC (ps.map (·.1)) (j:Int) hold rank amt=1:=by
   unfold pyC;rw [List.length_map,←hpn];simp only [Int.toNat_natCast,h1,h2,h4,h5,h8,h9,h3n,h6n,h7n,or_false,false_or,or_true,true_or,and_false,false_and,and_true,true_and,not_true_eq_false,not_false_eq_true,if_true,if_false,reduceIte]
  refine awX ?_;try simp only [F55,seval]
  exact nz hpy (by decide) (fun y B hy1 hy2 hB=>by
   have h8:=hbH y B hB;simp only [aj];repeat rw [if_neg (by omega)]
   exact hB)
 refine awR [] [0,0,0,0,97,97,97,97,104,104,104,97,0,0] ?_;simp only [F55,seval,cS,h1,h2,h3n,h4,h5,h6n,h7n,h8,h9];repeat refine ob ?_
 refine awF ?_;by_cases h10:aL (qOf amt)<0
 ·obtain ⟨h,rfl⟩:∃h:Nat,hold=(h:Int):=⟨hold.toNat,by omega⟩;have hhl:h<ps.length:=by omega
  have hne:h≠j:=by omega
  obtain ⟨qh,hqh⟩:∃q,ps[h]? =some q:=⟨_,List.getElem?_eq_getElem hhl⟩;have hch:=mj ps h qh hqh;have hqhs:=hsz qh (List.mem_of_getElem? hqh);have hKc:=CR qh.1.cash amt K A hqhs ham (by omega) (by omega) hK0 hA0;simp only [cS] at hch hKc;have hSg:=rR amt (by have:=ham.1;omega) (by have:=ham.2;omega);simp only [cS] at hSg;refine awN ?_;simp only [F55,seval,cS,h1,h2,h3n,h4,h5,h6n,h7n,h8,h9,h10];repeat refine ob ?_
  refine ⟨_,hSg,rfl,?_⟩;try simp only [aq,F55,seval,cS,h1,h2,h3n,h4,h5,h6n,h7n,h8,h9,h10]
  repeat refine ob ?_
  refine awT ?_;refine awN ?_;simp only [F55,seval,cS,h1,h2,h3n,h4,h5,h6n,h7n,h8,h9,h10];repeat refine ob ?_
  have hpy:pyC (ps.map (·.1)) (j:Int) (h:Int) rank amt=7:=by
   unfold pyC;rw [List.length_map,←hpn];simp only [Int.toNat_natCast,fd hq,fd hqh,h1,h2,h4,h5,h8,h9,h10,h3n,h6n,h7n,or_false,false_or,or_true,true_or,and_false,false_and,and_true,true_and,not_true_eq_false,not_false_eq_true,if_true,if_false,reduceIte]
  refine awX ?_;try simp only [F55,seval]
  exact nz hpy (by decide) (fun y B hy1 hy2 hB=>by
   have h8:=hbH y B hB;simp only [aj];repeat rw [if_neg (by omega)]
   exact hB)
 obtain ⟨h,rfl⟩:∃h:Nat,hold=(h:Int):=⟨hold.toNat,by omega⟩;have hhl:h<ps.length:=by omega
 have hne:h≠j:=by omega
 obtain ⟨qh,hqh⟩:∃q,ps[h]? =some q:=⟨_,List.getElem?_eq_getElem hhl⟩;have hch:=mj ps h qh hqh;have hqhs:=hsz qh (List.mem_of_getElem? hqh);have hKc:=CR qh.1.cash amt K A hqhs ham (by omega) (by omega) hK0 hA0;simp only [cS] at hch hKc;have hSg:=rR amt (by have:=ham.1;omega) (by have:=ham.2;omega);simp only [cS] at hSg;refine awN ?_;simp only [F55,seval,cS,h1,h2,h3n,h4,h5,h6n,h7n,h8,h9,h10];repeat refine ob ?_
 refine ⟨_,hSg,rfl,?_⟩;try simp only [aq,F55,seval,cS,h1,h2,h3n,h4,h5,h6n,h7n,h8,h9,h10]
 repeat refine ob ?_
 refine awF ?_;by_cases h11:fV (qOf qh.1.cash) (qOf amt)<0
 ·refine awD (scT 0 13 (scq [26,29,31,33] .nil)) [0,0,0,0,135,135,135,135,135,135,135,135,135,135,135,0,0] ?_;simp only [F55,seval,cS,h1,h2,h3n,h4,h5,h6n,h7n,h8,h9,h10,h11,h220,hch,hrl];repeat refine ob ?_
  refine ⟨_,hKc,rfl,?_⟩;try simp only [aq,F55,seval,cS,h1,h2,h3n,h4,h5,h6n,h7n,h8,h9,h10,h11,h220,hch,hrl]
  repeat refine ob ?_
  refine awT ?_;refine awN ?_;simp only [F55,seval,cS,h1,h2,h3n,h4,h5,h6n,h7n,h8,h9,h10,h11];repeat refine ob ?_
  have hpy:pyC (ps.map (·.1)) (j:Int) (h:Int) rank amt=50:=by
   unfold pyC;rw [List.length_map,←hpn];simp only [Int.toNat_natCast,fd hq,fd hqh,h1,h2,h4,h5,h8,h9,h10,h11,h3n,h6n,h7n,or_false,false_or,or_true,true_or,and_false,false_and,and_true,true_and,not_true_eq_false,not_false_eq_true,if_true,if_false,reduceIte]
  refine awX ?_;try simp only [F55,seval]
  exact nz hpy (by decide) (fun y B hy1 hy2 hB=>by
   have h8:=hbH y B hB;simp only [aj];repeat rw [if_neg (by omega)]
   exact hB)
 refine awD (scT 0 13 (scq [26,29,31,33] .nil)) [0,0,0,0,135,135,135,135,135,135,135,135,135,135,135,0,0] ?_;simp only [F55,seval,cS,h1,h2,h3n,h4,h5,h6n,h7n,h8,h9,h10,h11,h220,hch,hrl];repeat refine ob ?_
 refine ⟨_,hKc,rfl,?_⟩;try simp only [aq,F55,seval,cS,h1,h2,h3n,h4,h5,h6n,h7n,h8,h9,h10,h11,h220,hch,hrl]
 repeat refine ob ?_
 refine awF ?_;by_cases h12:(24:Int)<=(q.1.claims.length:Int)
 ·refine awR [] [0,0,0,0,169,169,169,169,169,169,169,169,169,0,0] ?_;simp only [F55,seval,cS,h1,h2,h3n,h4,h5,h6n,h7n,h8,h9,h10,h11,h12,h220,hget,F9,htb,hrl];repeat refine ob ?_
  refine awT ?_;refine awN ?_;simp only [F55,seval,cS,h1,h2,h3n,h4,h5,h6n,h7n,h8,h9,h10,h11,h12];repeat refine ob ?_
  have hpy:pyC (ps.map (·.1)) (j:Int) (h:Int) rank amt=2:=by
   unfold pyC;rw [List.length_map,←hpn];simp only [Int.toNat_natCast,fd hq,fd hqh,h1,h2,h4,h5,h8,h9,h10,h11,h12,h3n,h6n,h7n,or_false,false_or,or_true,true_or,and_false,false_and,and_true,true_and,not_true_eq_false,not_false_eq_true,if_true,if_false,reduceIte]
  refine awX ?_;try simp only [F55,seval]
  exact nz hpy (by decide) (fun y B hy1 hy2 hB=>by
   have h8:=hbH y B hB;simp only [aj];repeat rw [if_neg (by omega)]
   exact hB)
 refine awR [] [0,0,0,0,169,169,169,169,169,169,169,169,169,0,0] ?_;simp only [F55,seval,cS,h1,h2,h3n,h4,h5,h6n,h7n,h8,h9,h10,h11,h12,h220,hget,F9,htb,hrl];repeat refine ob ?_
 refine awF ?_;refine awK ?_;simp only [F55,seval];refine awN ?_;simp only [F55,seval,cS,h1,h2,h3n,h4,h5,h6n,h7n,h8,h9,h10,h11,h12,h220,hrl];repeat refine ob ?_
 have hAd:=EW q.1.cash amt K A hqs ham (by omega) (by omega) hK0 hA0;have hw1:=v8 (aR 103) ps j q (enc (qOf q.1.cash+qOf amt)) hq rfl;simp only [cS] at hAd hw1;refine awD (scT 0 7 (scq [14,17,19,20] .nil)) [0,0,0,0,0,0,0,0,0,0,0] ?_;simp only [F55,seval,cS,h1,h2,h3n,h4,h5,h6n,h7n,h8,h9,h10,h11,h12,h220,hcq,hrl,hw1];repeat refine ob ?_
 refine ⟨_,hAd,rfl,?_⟩;try simp only [aq,F55,seval,cS,h1,h2,h3n,h4,h5,h6n,h7n,h8,h9,h10,h11,h12,h220,hcq,hrl,hw1]
 repeat refine ob ?_
 obtain ⟨p1,hp1⟩:∃p,p=ps.set j (⟨enc (qOf q.1.cash+qOf amt),q.1.claims,q.1.agrs⟩,q.2):=⟨_,rfl⟩;rw [←hp1];have hl1:p1.length=n9:=by rw [hp1,List.length_set];exact hpn.symm
 have hr1:(eRw (aR 103) p1 0).length=n9*5:=by rw [kz,hl1]
 have hmz1:upE (ps.map (·.1)) j (adE (qOf amt))=p1.map (·.1):=by rw [hp1];exact (zp (adE _) q.2 hq).symm
 have h1j:p1[j]? =some (⟨enc (qOf q.1.cash+qOf amt),q.1.claims,q.1.agrs⟩,q.2):=by rw [hp1,List.getElem?_set_self hjl]
 have ht1:∀i r,p1[i]? =some r->H (1000*(i+1)+103)=some ⟨r.2,38,5,r.1.claims.length,ar aA r.1.claims⟩:=by rw [hp1];exact zj _ hq htab
 refine awN ?_;simp only [F55,seval,cS,h1,h2,h3n,h4,h5,h6n,h7n,h8,h9,h10,h11,h12];repeat refine ob ?_
 refine awT ?_;refine awN ?_;simp only [F55,seval,cS,h1,h2,h3n,h4,h5,h6n,h7n,h8,h9,h10,h11,h12,hr1];repeat refine ob ?_
 have hSb:=EX qh.1.cash amt K A hqhs ham (by omega) (by omega) hK0 hA0;have hqh1:p1[h]? =some qh:=by rw [hp1,List.getElem?_set_ne (fun e=>hne e.symm)];exact hqh
 have hch1:=mj p1 h qh hqh1;have hw2:=v8 (aR 103) p1 h qh (enc (qOf qh.1.cash-qOf amt)) hqh1 rfl;simp only [cS] at hSb hw2 hch1;refine awD (scT 0 7 (scq [14,17,19,20] .nil)) [0,0,0,0,0,0,0,0,0,0,0] ?_;simp only [F55,seval,cS,h1,h2,h3n,h4,h5,h6n,h7n,h8,h9,h10,h11,h12,hch1,hr1,hw2];repeat refine ob ?_
 refine ⟨_,hSb,rfl,?_⟩;try simp only [aq,F55,seval,cS,h1,h2,h3n,h4,h5,h6n,h7n,h8,h9,h10,h11,h12,hch1,hr1,hw2]
 repeat refine ob ?_
 obtain ⟨p2,hp2⟩:∃p,p=p1.set h (⟨enc (qOf qh.1.cash-qOf amt),qh.1.claims,qh.1.agrs⟩,qh.2):=⟨_,rfl⟩;rw [←hp2];have hl2:p2.length=n9:=by rw [hp2,List.length_set];exact hl1
 have hmz2:upE (p1.map (·.1)) h (sbE (qOf amt))=p2.map (·.1):=by rw [hp2];exact (zp (sbE _) qh.2 hqh1).symm
 have h2j:p2[j]? =some (⟨enc (qOf q.1.cash+qOf amt),q.1.claims,q.1.agrs⟩,q.2):=by rw [hp2,List.getElem?_set_ne hne];exact h1j
 have ht2:∀i r,p2[i]? =some r->H (1000*(i+1)+103)=some ⟨r.2,38,5,r.1.claims.length,ar aA r.1.claims⟩:=by rw [hp2];exact zj _ hqh1 ht1
 refine awN ?_;simp only [F55,seval,cS,h1,h2,h3n,h4,h5,h6n,h7n,h8,h9,h10,h11,h12];repeat refine ob ?_
 refine awT ?_;have hgz:=pz (aR 103) p2 j _ h2j;have hfz:aR 103 j (⟨enc (qOf q.1.cash+qOf amt),q.1.claims,q.1.agrs⟩,q.2)= .own b9 q.2 q.1.claims.length 5:=by rw [hb9];rfl
 rw [hfz] at hgz;have hrz:(eRw (aR 103) p2 0).length=n9*5:=by rw [kz,hl2]
 have hs1:∀c:C,spl (eRw (aR 103) p2 0) (j*5+3) [c]=(eRw (aR 103) p2 0).set (j*5+3) c:=fun c=>bY _ _ _ (by rw [hrz];omega)
 have hqc:=hcl q (List.mem_of_getElem? hq);have hCa:=JD amt hcq9;simp only [cS] at hCa;have hnc:ar aA q.1.claims++[.lit (.int .i64 (h:Int)),.lit (.int .i64 rank),.lit (.bool (clR amt).neg),.lit (.string (clR amt).num),.lit (.string (clR amt).den)]=ar aA (q.1.claims++[⟨(h:Int),rank,clR amt⟩]):=by rw [aV];simp [aY,ej,aA]
 refine awD (scT 0 11 (scq [22,25,26,28,31,33,34] .nil)) [0,0,0,0,0,0,0,0,0,0,0,0,0,0,0,0,0,0] ?_;simp only [F55,seval,cS,h1,h2,h3n,h4,h5,h6n,h7n,h8,h9,h10,h11,h12,hgz,F9,htb,hrz,hs1,hnc];repeat refine ob ?_
 refine ⟨_,hCa,rfl,?_⟩;try simp only [aq,F55,seval,cS,h1,h2,h3n,h4,h5,h6n,h7n,h8,h9,h10,h11,h12,hgz,F9,htb,hrz,hs1,hnc]
 repeat refine ob ?_
 refine JK 2144 b9 220 (j*5+3) (by rfl) (by rfl) (by show (List.set _ _ _)[_]? =_;exact List.getElem?_set_self (by rw [hrz];omega)) (by decide) (by omega) (by show (5:Nat)≠0;decide) (by show (5:Nat)≠0;decide) rfl (fun t9=>?_);have hcm:((eRw (aR 103) p2 0).set (j*5+3) (.own b9 t9 (q.1.claims.length+1) 5))=eRw (aR 103) (p2.set j (⟨enc (qOf q.1.cash+qOf amt),(q.1.claims++[⟨(h:Int),rank,clR amt⟩]),q.1.agrs⟩,t9)) 0:=by
  have h8:=JV p2 j _ (q.1.claims++[⟨(h:Int),rank,clR amt⟩]) t9 h2j;rw [List.length_append] at h8;rw [hb9];exact h8
 simp only [F55,seval,List.set_set,hcm];refine awN ?_;simp only [F55,seval,cS,h1,h2,h3n,h4,h5,h6n,h7n,h8,h9,h10,h11,h12];repeat refine ob ?_
 have hpy:pyC (ps.map (·.1)) (j:Int) (h:Int) rank amt=0:=by
  unfold pyC;rw [List.length_map,←hpn];simp only [Int.toNat_natCast,fd hq,fd hqh,h1,h2,h4,h5,h8,h9,h10,h11,h12,h3n,h6n,h7n,or_false,false_or,or_true,true_or,and_false,false_and,and_true,true_and,not_true_eq_false,not_false_eq_true,if_true,if_false,reduceIte]
 have hpe:zz (ps.map (·.1)) (j:Int) (h:Int) rank amt=upE (p2.map (·.1)) j (apE ⟨(h:Int),rank,clR amt⟩):=by
  unfold zz;simp only [Int.toNat_natCast,h3n,h7n,hmz1,if_true,if_false,reduceIte,hmz2]
 refine awX ?_;try simp only [F55,seval]
 refine Kj hpy (fun y B hy1 hy2 hB=>by
  have h8:=hbH y B hB;simp only [aj];repeat rw [if_neg (by omega)]
  exact hB) ⟨(p2.set j (⟨enc (qOf q.1.cash+qOf amt),(q.1.claims++[⟨(h:Int),rank,clR amt⟩]),q.1.agrs⟩,t9)),by rw [hpe];exact zp (apE _) t9 h2j,?_,fun i r hr=>?_⟩
 ·first|rfl|(simp only [aj];rfl)|(simp [aj];done)
 by_cases hij:i=j
 ·subst hij;rw [List.getElem?_set_self (by omega)] at hr;obtain rfl:=Option.some.inj hr;rw [←hb9];simp only [aj];repeat (first|rw [if_pos rfl]|rw [if_neg (by omega)])
  simp
 rw [List.getElem?_set_ne (fun e=>hij e.symm)] at hr;have h9:=ht2 i r hr;simp only [aj];repeat rw [if_neg (by omega)]
 exact h9
noncomputable def m9:List GRet->List GEst->List GEst×Int
 |[],es=>(es,0)
 |r::l,es=>if pyC es r.est r.holder r.rank r.amount=0 then m9 l (zz es r.est r.holder r.rank r.amount) else ([],pyC es r.est r.holder r.rank r.amount)
noncomputable def rvS (gc:Int) (g:GGrp) (l:List GRet):GGrp×Int:=
 if gc=0 then if (64:Int)<(l.length:Int) then (⟨[],[]⟩,2) else if (m9 l (g.ests.map clE)).2=0 then (⟨(m9 l (g.ests.map clE)).1,g.debts.map clD⟩,0) else (⟨[],[]⟩,(m9 l (g.ests.map clE)).2) else (⟨[],[]⟩,gc)
def rvB (K C:Nat) (e:GEst):Prop:=sB K e.cash/\e.claims.length<=C
theorem Lr {K C K' C':Nat} {es:List GEst} (f:GEst->GEst) (hf:∀e,rvB K C e->rvB K' C' (f e)) (hK:K<=K') (hC:C<=C') (j:Nat) (h:∀e∈es,rvB K C e):∀e∈upE es j f,rvB K' C' e:=fun e he=>by
 unfold upE at he;obtain ⟨i,hi,rfl⟩:=List.getElem_of_mem he;rw [List.getElem_set];split
 ·rename_i hji;subst hji;have hj:j<es.length:=by simpa using hi
  rw [sD _ _ hj];exact hf _ (h _ (List.getElem_mem hj))
 have h1:=h _ (List.getElem_mem (by simpa using hi));exact ⟨⟨Nat.le_trans h1.1.1 hK,Nat.le_trans h1.1.2 hK⟩,Nat.le_trans h1.2 hC⟩
theorem J4 {K C A:Nat} {es:List GEst} {est hold rank:Int} {amt:GRat} (hK:0<K) (hA:0<A) (ha:sB A amt) (h:∀e∈es,rvB K C e):∀e∈zz es est hold rank amt,rvB (K+2*(A+1)) (C+1) e:=by
 have h1:=Lr (K':=K+(A+1)) (C':=C) (adE (qOf amt)) (fun e he=>⟨by have:=eH ((zq he.1 hK).add (zq ha hA));exact ⟨by have:=this.1;show _<=_;unfold adE;dsimp only;omega,by have:=this.2;unfold adE;dsimp only;omega⟩,he.2⟩) (by omega) (Nat.le_refl _) est.toNat h;have h2:∀e∈(if hold= -1 then upE es est.toNat (adE (qOf amt)) else upE (upE es est.toNat (adE (qOf amt))) hold.toNat (sbE (qOf amt))),rvB (K+2*(A+1)) C e:=by
  split
  ·intro e he;have:=h1 e he;exact ⟨⟨by have:=this.1.1;omega,by have:=this.1.2;omega⟩,this.2⟩
  exact Lr (sbE (qOf amt)) (fun e he=>⟨by have:=eH ((zq he.1 (by omega)).sub (zq ha hA));exact ⟨by have:=this.1;unfold sbE;dsimp only;omega,by have:=this.2;unfold sbE;dsimp only;omega⟩,he.2⟩) (by omega) (Nat.le_refl _) hold.toNat h1
 unfold zz;dsimp only;split
 ·intro e he;exact ⟨(h2 e he).1,Nat.le_succ_of_le (h2 e he).2⟩
 exact Lr (apE _) (fun e he=>⟨he.1,by unfold apE;simp;exact he.2⟩) (Nat.le_refl _) (by omega) est.toNat h2
theorem Jz (es:List GEst) (est hold rank:Int) (amt:GRat):(zz es est hold rank amt).length=es.length:=by
 unfold zz;dsimp only;split<;>split<;>simp only [LL]
theorem LR {K C:Nat} {es:List GEst} (hK:0<K) (h:∀e∈es,rvB K C e):∀e∈es.map clE,rvB K C e:=fun e he=>by
 obtain ⟨e0,h0,rfl⟩:=List.mem_map.1 he;have:=h e0 h0;exact ⟨eH (zq this.1 hK),by simpa [clE] using this.2⟩
def zB9 (t:Nat):Blk:=⟨t,28,2,1,[.lit (.slice none 0 0),.lit (.slice none 0 0)]⟩
theorem j9 {κ:Kx} {vs:List Value} (h:denVs κ vs [.lit (.slice none 0 0),.lit (.slice none 0 0)]):denVs κ vs [.sh 5 0 [],.sh 4 0 []]:=by
 obtain ⟨v1,vs1,rfl,d1,h⟩:=aW h;obtain ⟨v2,vs2,rfl,d2,h⟩:=aW h;exact ⟨jY 5 d1,jY 4 d2,h⟩
theorem psB {ps:List (GEst×Nat)} {es:List GEst} {K C:Nat} (hm:ps.map (·.1)=es) (h:∀e∈es,rvB K C e):∀q∈ps,rvB K C q.1:=fun q hq=>h _ (hm▸List.mem_map.2 ⟨q,hq,rfl⟩)
def F56:=And.intro zS (And.intro zE (And.intro zF (And.intro xh (And.intro zG (And.intro Am (And.intro xj (yH)))))))
theorem F57:type_of%F56:=F56
theorem Ls (g:GGrp) (l:List GRet) (hg:cqG g) (hgo:xW g) (hgs:∀e∈g.ests,rvB 1000000 900000 e) (hl:∀r∈l,sB 1000000 r.amount) (hl9:l.length<=9223372036854775807):ch prog 17 [.agg (au g),.one (.sh 6 l.length (ar di l))] (.tup [.agg (au (rvS (nW g) g l).1),.one (.lit (.int .i64 (rvS (nW g) g l).2))]):=by
 obtain ⟨X,hX⟩:∃X,X=rvS (nW g) g l:=⟨_,rfl⟩;rw [←hX];refine bF func17 rfl (by decide) (N:=38) rfl (by simp) (R:=[.cell 4 28,.tmp 5]) rfl fun en k0=>?_
 refine awN ?_;simp only [F57,seval,au];repeat refine ob ?_
 have hK:=Lm g hgo;refine awN ?_;simp only [F57,seval,au,ab ak,ab ai];repeat refine ob ?_
 refine ⟨_,hK,(by first|rfl|simp [bu,aI,av,az,A1.cells,au,ab ak,ab ai]),?_⟩;try simp only [aq,F57,seval,au,ab ak,ab ai]
 repeat refine ob ?_
 by_cases h0:nW g=0
 ·refine awN ?_;simp only [F57,seval,au,h0];repeat refine ob ?_
  refine awF ?_;refine awK ?_;simp only [F57,seval];by_cases h64:(64:Int)<(l.length:Int)
  ·refine awN ?_;simp only [F57,seval,au,h0,h64];repeat refine ob ?_
   refine awT ?_;refine awN ?_;simp only [F57,seval,au,h0,h64];repeat refine ob ?_
   refine be (vt 4 [.sh 5 0 [],.sh 4 0 []] (by rfl) (by show (2:Nat)≠0;decide) (by rfl) (fun κ vs h=>j9 h)) ?_;simp only [F57,seval];have hR:X=(⟨[],[]⟩,2):=by
    rw [hX];unfold rvS;rw [if_pos h0,if_pos h64]
   refine awX ?_;rw [hR];try simp only [F57,seval]
   simp [au,ej]
  refine awN ?_;simp only [F57,seval,au,h0,h64];repeat refine ob ?_
  refine awF ?_;refine awK ?_;simp only [F57,seval];have hn1:=hg.1;refine awR [22] [0,0,0,0] ?_;simp only [F57,seval,au,h0,h64];repeat refine ob ?_
  refine ⟨_,Kv g hg _ _ (fun y B hB=>?_),?_⟩
  ·simp only [aj] at hB;repeat (split at hB;· omega)
   cases hB
  rintro res H' nxA ⟨ps0,s0,t0,hps0,rfl,rfl⟩;simp only [F57,seval,(id SD)];repeat refine ob ?_
  refine awN ?_;simp only [F57,seval,au,h0,h64];repeat refine ob ?_
  refine aE (tbl 103 38 ps0) [1,4,5,6,7,23,24,25] [4,7,220] (by intro y B h;obtain ⟨a,r,rfl,h2,h3⟩:=bD h;right;simp only [aj];(repeat rw [if_neg (by omega)]);unfold orT;rw [h]) ?_;try simp only [aq,F57,seval,au,h0,h64]
  repeat' first|apply awS|apply awB
  refine aB (fun n st=>∃k ps nx,k<=l.length/\n=l.length-k/\m9 (l.drop k) (ps.map (·.1))=m9 l (g.ests.map clE)/\ps.length=g.ests.length/\(∀q∈ps,rvB (1000000+k*2000002) (900000+k) q.1)/\st=⟨mkT [(1,.val (.one (.sh 6 l.length (ar di l)))),(4,.val (.one (.ptr 4 1 0))),(5,one (.int .i64 0)),(6,one (.int .i64 0)),(7,.val (.one (.ptr 7 nxA 0))),(23,.val (.one (.sh 6 l.length (ar di l)))),(24,one (.int .i64 l.length)),(25,one (.int .i64 k))],bW (tbl 103 38 ps) [(4,zB9 1),(7,⟨nxA,28,2,1,[.own 220 s0 g.ests.length 5,.sh 4 (g.debts.map clD).length (ar cn (g.debts.map clD))]⟩),(220,⟨s0,36,5,g.ests.length,eRw (aR 103) ps 0⟩)],nx,0⟩) (l.length) ⟨0,ps0,_,by omega,by omega,by rw [hps0];rfl,by have:=congrArg List.length hps0;simpa using this,psB hps0 (LR (by decide) hgs),rfl⟩ ?_;rintro n0 st ⟨k,ps,nx0,hk,rfl,hap,hpl,hB9,rfl⟩;by_cases hlt0:(k:Int)<(l.length:Int)
  ·refine awN ?_;simp only [F57,seval,au,h0,h64,hlt0];repeat refine ob ?_
   refine awT ?_;refine awK ?_;simp only [F57,seval];have hkl:k<l.length:=by omega
   have hat:=aO CX l k hkl;obtain ⟨r,hXr⟩:∃r,l[k]=r:=⟨_,rfl⟩;have hra:sB 1000000 r.amount:=hl r (hXr▸List.getElem_mem hkl);rw [hXr] at hat;have hk64:l.length<=64:=by omega
   refine awN ?_;simp only [F57,seval,au,h0,h64,hlt0,hat,di];repeat refine ob ?_
   refine awR [31] [0,0,0,0] ?_;simp only [F57,seval,au,h0,h64,hlt0,di];repeat refine ob ?_
   refine ⟨_,Mt ps (g.debts.map clD) r.est r.holder r.rank r.amount g.ests.length s0 (1000000+k*2000002) 1000000 _ _ hpl.symm hn1 hra (by decide) (by decide) (by omega) (by omega) (fun q hq=>(hB9 q hq).1) (fun q hq=>by have:=(hB9 q hq).2;omega) (by rfl) (fun i r hr=>?_) (fun y B hB=>?_),?_⟩
   ·simp only [aj];repeat rw [if_neg (by omega)]
    exact bk (by decide) hr
   ·simp only [aj] at hB;repeat (split at hB;· omega)
    obtain ⟨a,r,rfl,_,_⟩:=bD hB;right;omega
   rintro res H' nx' ⟨rfl,hk9,hp9⟩;have h4:=hk9 4 _ (by decide) (by decide) (by simp only [aj];rfl);have h7:=hk9 7 _ (by decide) (by decide) (by simp only [aj];rfl);simp only [F57,seval,(id SD)];repeat refine ob ?_
   by_cases hc:pyC (ps.map (·.1)) r.est r.holder r.rank r.amount=0
   ·refine awN ?_;simp only [F57,seval,au,h0,h64,hlt0,hc];repeat refine ob ?_
    refine awF ?_;refine awK ?_;simp only [F57,seval];refine awN ?_;simp only [F57,seval,au,h0,h64,hlt0,hc];repeat refine ob ?_
    obtain ⟨ps9,hm9,h220,ht9⟩:=hp9 hc;refine ⟨_,bE (tbl 103 38 ps9) [1,4,5,6,7,23,24,25] [4,7,220] (bR ht9 _),l.length-(k+1),by omega,k+1,ps9,?nn15,by omega,rfl,?ap15,?ln15,?bd15,?st15⟩;case st15=>(simp only [F57,seval,h4,h7,h220,zB9];try rfl)
    case ap15=>
     rw [hm9];rw [List.drop_eq_getElem_cons hkl,hXr] at hap;simp only [m9] at hap;rw [if_pos hc] at hap;exact hap
    case ln15=>(have h1:=congrArg List.length hm9;rw [Jz,List.length_map,List.length_map] at h1;omega)
    case bd15=>
     have h1:=psB hm9 (J4 (K:=1000000+k*2000002) (C:=900000+k) (by omega) (by decide) hra (fun e he=>by obtain ⟨q,hq,rfl⟩:=List.mem_map.1 he;exact hB9 q hq));intro q hq;have h2:=h1 q hq;rw [show 1000000+(k+1)*2000002=1000000+k*2000002+2*(1000000+1) by omega,show 900000+(k+1)=900000+k+1 by omega];exact h2
   refine awN ?_;simp only [F57,seval,au,h0,h64,hlt0,hc];repeat refine ob ?_
   refine awT ?_;refine awN ?_;simp only [F57,seval,au,h0,h64,hlt0,hc,h4,zB9];repeat refine ob ?_
   have hE:m9 l (g.ests.map clE)=([],pyC (ps.map (·.1)) r.est r.holder r.rank r.amount):=by
    rw [List.drop_eq_getElem_cons hkl,hXr] at hap;simp only [m9] at hap;rw [if_neg hc] at hap;exact hap.symm
   refine be (vt 4 [.sh 5 0 [],.sh 4 0 []] (by rfl) (by show (2:Nat)≠0;decide) (by rfl) (fun κ vs h=>j9 h)) ?_;simp only [F57,seval];have hR:X=(⟨[],[]⟩,pyC (ps.map (·.1)) r.est r.holder r.rank r.amount):=by
    rw [hX];unfold rvS;rw [if_pos h0,if_neg h64,hE];exact if_neg hc
   refine awX ?_;rw [hR];try simp only [F57,seval]
   simp [au,ej]
  refine awN ?_;simp only [F57,seval,au,h0,h64,hlt0];repeat refine ob ?_
  refine awF ?_;refine awQ ?_;simp only [F57,seval];obtain rfl:k=l.length:=by omega
  rw [List.drop_length] at hap;simp only [m9] at hap;have hnl:(ps.map (·.1)).length=g.ests.length:=by rw [List.length_map];exact hpl
  refine aE (tbl 103 38 ps) [1,4,5,6,7] [220,4,7] (by intro y B h;obtain ⟨a,r,rfl,h2,h3⟩:=bD h;right;simp only [aj];(repeat rw [if_neg (by omega)]);exact h) ?_;simp only [F57,seval];refine be (bZ 103 38 36 (by decide) 220 [(4,_),(7,_)] (by simp) (by decide) g.ests.length _ ps) ?_;rw [bP];simp only [F57,seval];refine ao 220 7 0 (by rfl) (by rfl) (by rfl) (by decide) (by show (5:Nat)≠0;decide) (by show (2:Nat)≠0;decide) rfl ?_;simp only [F57,seval];refine awN ?_;simp only [F57,seval,au,h0,h64,hlt0];repeat refine ob ?_
  have hR:X=(⟨ps.map (·.1),g.debts.map clD⟩,0):=by
   rw [hX];unfold rvS;rw [if_pos h0,if_neg h64,←hap];exact if_pos rfl
  refine awX ?_;rw [hR];simp only [F57,seval,ab ak,ab ai];simp [au,hpl]
 refine awN ?_;simp only [F57,seval,au,h0];repeat refine ob ?_
 refine awT ?_;refine awN ?_;simp only [F57,seval,au,h0];repeat refine ob ?_
 refine be (vt 4 [.sh 5 0 [],.sh 4 0 []] (by rfl) (by show (2:Nat)≠0;decide) (by rfl) (fun κ vs h=>j9 h)) ?_;simp only [F57,seval];have hR:X=(⟨[],[]⟩,nW g):=by
  rw [hX];unfold rvS;rw [if_neg h0]
 refine awX ?_;rw [hR];try simp only [F57,seval]
 simp [au,ej]
end Go.Proofs.YtcgpghifhehlhaaGreatDoor
