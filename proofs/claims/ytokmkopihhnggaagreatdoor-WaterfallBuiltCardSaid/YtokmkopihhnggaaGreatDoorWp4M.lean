/- Plain: what the ranks of an estate pay. No walk. -/
import Derived.Test.YtokmkopihhnggaaGreatDoorPl3M
import Derived.Test.YtokmkopihhnggaaGreatDoorWl2M
import Derived.Test.YtokmkopihhnggaaGreatDoorAbVM
import Derived.Test.YtokmkopihhnggaaGreatDoorRw5M
set_option linter.unusedVariables false
set_option maxHeartbeats 4000000
set_option maxRecDepth 100000
set_option linter.unusedSimpArgs false
set_option linter.defProp false
namespace Go.Proofs.YtokmkopihhnggaaGreatDoor
open Go Go.RowKit Go.Proofs.Tryz
def wFr:List WT->Rat->Nat->Rat
 |[],_,_=>0
 |t::_,m,0=>if m<au t then m/au t else 1
 |t::l,m,r+1=>if m<au t then 0 else wFr l (m-au t) r
theorem mr (i:Int):∀(l:List WT) (m:Rat),(∀t∈l,wAt i t=0)->dw l m i=0
 |[],_,_=>rfl
 |t::l,m,h=>by
  rw [dw,h t (by simp),mr i l _ fun x hx=>h x (by simp [hx])];split<;>grind
theorem xj (i:Int) (a:Rat):∀(l:List WT) (m:Rat) (r:Nat),(∀j (h:j<l.length),wAt i l[j]=if j=r then a else 0)->dw l m i=a*wFr l m r
 |[],m,r,_=>by simp only [dw,wFr];grind
 |t::l,m,0,h=>by
  have h0:=h 0 (by simp);simp only [List.getElem_cons_zero,if_true] at h0;have h1:=mr i l (m-au t) fun x hx=>by
   obtain ⟨j,hj,rfl⟩:=List.getElem_of_mem hx;have:=h (j+1) (by simpa using hj);simpa using this
  rw [dw,wFr,h0,h1];split<;>grind
 |t::l,m,r+1,h=>by
  have h0:=h 0 (by simp);have h1:=xj i a l (m-au t) r fun j hj=>by
   have:=h (j+1) (by simpa using hj);simpa using this
  rw [dw,wFr,h1];have h2:wAt i t=0:=by simpa using h0
  rw [h2];split<;>grind
theorem qW:∀(l:List WT) (m:Rat) (r:Nat),0<=m->0<=wFr l m r/\wFr l m r<=1
 |[],_,_,_=>by simp only [wFr];grind
 |t::l,m,0,hm=>by
  rw [wFr];split
  ·exact mq hm ‹_›
  grind
 |t::l,m,r+1,hm=>by
  rw [wFr];split
  ·grind
  exact qW l (m-au t) r (by grind)
theorem y9 (r:Int):∀(cs:List GClaim) (s k:Nat) (h:k<cs.length),wAt ((s+k:Nat):Int) (wRk r cs s)=if cs[k].rank=r then qOf cs[k].amount else 0
 |[],_,_,h=>absurd h (by simp)
 |c::cs,s,0,_=>by
  have h0:∀(cs:List GClaim) (s':Nat),s<s'->wAt (s:Int) (wRk r cs s')=0:=by
   intro cs;induction cs with
   |nil=>intro _ _;rfl
   |cons d cs ih=>
    intro s' hs;have h1:=ih (s'+1) (by omega);rw [wRk];split
    ·rw [wAt,h1];have h2:¬((s':Int)=(s:Int)):=by omega
     simp only [h2,if_false];grind
    exact h1
  have h1:=h0 cs (s+1) (by omega);rw [wRk];simp only [List.getElem_cons_zero,Nat.add_zero];split
  ·rw [wAt,h1];simp only [if_true];grind
  exact h1
 |c::cs,s,k+1,h=>by
  have h1:=y9 r cs (s+1) k (by simpa using h);rw [show s+1+k=s+(k+1) by omega] at h1;rw [wRk];simp only [List.getElem_cons_succ];split
  ·rw [wAt,h1];have h2:¬((s:Int)=((s+(k+1):Nat):Int)):=by omega
   simp only [h2,if_false];grind
  exact h1
theorem nW (r:Int):∀(cs:List GClaim) (s:Nat),∀p∈wRk r cs s,(s:Int)<=p.1/\p.1<((s+cs.length:Nat):Int)/\∃c∈cs,p.2=qOf c.amount
 |[],_,p,h=>by simp [wRk] at h
 |c::cs,s,p,h=>by
  have ih:=nW r cs (s+1) p;rw [wRk] at h;simp only [List.length_cons];split at h
  ·rcases List.mem_cons.1 h with rfl|h
   ·exact ⟨by simp,by simp;omega,c,by simp,rfl⟩
   obtain ⟨h1,h2,d,h3,h4⟩:=ih h;exact ⟨by omega,by omega,d,by simp [h3],h4⟩
  obtain ⟨h1,h2,d,h3,h4⟩:=ih h;exact ⟨by omega,by omega,d,by simp [h3],h4⟩
theorem uL (r:Int):∀(cs:List GClaim) (s:Nat),(wRk r cs s).length<=cs.length
 |[],_=>Nat.le_refl _
 |c::cs,s=>by
  have:=uL r cs (s+1);rw [wRk];split<;>simp only [List.length_cons]<;>omega
theorem qX (cs:List GClaim) (j:Nat) (h:j<(aF cs).length):(aF cs)[j]=wRk (j:Int) cs 0:=by
 have h8:j<8:=by simpa [aF] using h
 have h1:(aF cs)[j]? =some (wRk (j:Int) cs 0):=by
  unfold aF;rw [List.getElem?_map,List.getElem?_range h8];rfl
 exact (List.getElem?_eq_some_iff.1 h1).2
theorem fv (cs:List GClaim):(aF cs).length=8:=by simp [aF]
theorem jI {cs:List GClaim} {t:WT} (h:t∈aF cs):∃r:Nat,r<8/\t=wRk (r:Int) cs 0:=by
 unfold aF at h;obtain ⟨r,h1,rfl⟩:=List.mem_map.1 h;exact ⟨r,by simpa using h1,rfl⟩
theorem eR (cs:List GClaim):∀t∈aF cs,wIn cs.length t:=fun t h p hp=>by
 obtain ⟨r,_,rfl⟩:=jI h;obtain ⟨h1,h2,_⟩:=nW r cs 0 p hp;exact .inr ⟨by omega,by omega⟩
theorem fA {cs:List GClaim} (h:∀c∈cs,0<=qOf c.amount):wNN (aF cs):=fun t ht p hp=>by
 obtain ⟨r,_,rfl⟩:=jI ht;obtain ⟨_,_,c,h1,h2⟩:=nW r cs 0 p hp;rw [h2];exact h c h1
theorem xk:∀(cs:List GClaim) (r:Int) (s:Nat),wAt (-1) (wRk r cs s)=0
 |[],_,_=>rfl
 |c::cs,r,s=>by
  have h1:=xk cs r (s+1);rw [wRk];split
  ·rw [wAt,h1];have h2:¬((s:Int)= -1):=by omega
   simp only [h2,if_false];grind
  exact h1
theorem AU (c:GClaim) (l:List GClaim) (i:Nat):∀(n s:Nat),cK ((List.range' s n).map fun r:Nat=>wRk (r:Int) (c::l) i)=cK ((List.range' s n).map fun r:Nat=>wRk (r:Int) l (i+1))+if (s:Int)<=c.rank/\c.rank<((s+n:Nat):Int) then qOf c.amount else 0
 |0,s=>by
  have h:¬((s:Int)<=c.rank/\c.rank<((s+0:Nat):Int)):=by omega
  simp only [List.range'_zero,List.map_nil,cK,h,if_false];grind
 |n+1,s=>by
  have ih:=AU c l i n (s+1);rw [List.range'_succ,List.map_cons,List.map_cons,cK,cK,ih];simp only [wRk];by_cases h1:c.rank=(s:Int)
  ·have h2:¬(((s+1:Nat):Int)<=c.rank/\c.rank<((s+1+n:Nat):Int)):=by omega
   have h3:(s:Int)<=c.rank/\c.rank<((s+(n+1):Nat):Int):=by omega
   rw [if_pos h1,if_neg h2,if_pos h3,au];grind
  rw [if_neg h1];by_cases h2:((s+1:Nat):Int)<=c.rank/\c.rank<((s+1+n:Nat):Int)
  ·have h3:(s:Int)<=c.rank/\c.rank<((s+(n+1):Nat):Int):=by omega
   rw [if_pos h2,if_pos h3];grind
  have h3:¬((s:Int)<=c.rank/\c.rank<((s+(n+1):Nat):Int)):=by omega
  rw [if_neg h2,if_neg h3];grind
theorem xm:∀(n s i:Nat),cK ((List.range' s n).map fun r:Nat=>wRk (r:Int) [] i)=0
 |0,_,_=>rfl
 |n+1,s,i=>by
  rw [List.range'_succ,List.map_cons,cK,xm n (s+1) i];simp only [wRk,au];grind
theorem qY:∀(cs:List GClaim) (i:Nat),(∀c∈cs,0<=c.rank/\c.rank<=7)->cK ((List.range' 0 8).map fun r:Nat=>wRk (r:Int) cs i)=cx cs
 |[],i,_=>xm 8 0 i
 |c::cs,i,h=>by
  have h1:=h c (by simp);rw [AU,qY cs (i+1) fun x hx=>h x (by simp [hx]),if_pos (by omega),cx];grind
theorem qZ {cs:List GClaim} (h:∀c∈cs,0<=c.rank/\c.rank<=7):cK (aF cs)=cx cs:=by
 unfold aF;rw [List.range_eq_range'];exact qY cs 0 h
theorem tl:∀n,jZ (List.replicate n 0)=0
 |0=>rfl
 |n+1=>by rw [List.replicate_succ,jZ,tl n];grind
theorem lC (n i:Nat):(List.replicate n (0:Rat)).getD i 0=0:=by
 rw [List.getD_eq_getElem?_getD,List.getElem?_replicate];split<;>rfl
structure wEst (cs:List GClaim):Prop where
 am:∀c∈cs,0<=qOf c.amount
 rk:∀c∈cs,0<=c.rank/\c.rank<=7
noncomputable def gFr (cs:List GClaim) (m:Rat) (r:Int):Rat:=wFr (aF cs) m r.toNat
theorem EP {e:GEst} {m:Rat} (h:wEst e.claims) (k:Nat) (hk:k<e.claims.length):(aX (ay e) m).getD k 0=qOf e.claims[k].amount*gFr e.claims m e.claims[k].rank:=by
 have h1:=jh (k:Int) (.inr (by omega)) (aF e.claims) m ⟨List.replicate e.claims.length 0,0⟩ (by simpa using eR e.claims);have h2:¬((k:Int)= -1):=by omega
 have hr:=h.rk _ (List.getElem_mem hk);have h3:=xj (k:Int) (qOf e.claims[k].amount) (aF e.claims) m e.claims[k].rank.toNat fun j hj=>by
  rw [qX];have:=y9 (j:Int) e.claims 0 k hk;rw [Nat.zero_add] at this;rw [this];by_cases h4:e.claims[k].rank=(j:Int)
  ·rw [if_pos h4,if_pos (by omega)]
  rw [if_neg h4,if_neg (by omega)]
 unfold WR.get at h1;simp only [h2,if_false,Int.toNat_natCast,lC] at h1;unfold aX ay gFr;rw [h1,h3];grind
theorem gV (e:GEst) (m:Rat):(aX (ay e) m).length=e.claims.length:=iq _ _
theorem Gz (off:Nat) (H:Hp) (ny nm s sz n pn sp:Nat) (E:TypeId) (A B:List C) (t:WT) (c:Int) (x:Rat) (hoff:A.length=off) (hsz:sz≠0) (hnm:H nm=some ⟨s,E,sz,n,tcs A B (.own pn sp t.length 4) (enc (au t))⟩) (hp:H pn=some ⟨sp,230,4,t.length,ar cWP t⟩) (hne:nm≠pn) (F:∀k,3000<=k->k<3015->(nm=k)=False/\(k=nm)=False/\(pn=k)=False/\(k=pn)=False) (F1:nm≠3015)
  (hbH:∀y B,H y=some B->y<3000∨3015<=y) (hl:t.length<=1000000) (hc: -1<=c/\c<=1000000) (h1:qB 50000000000 (au t)) (h2:qB 50000000000 x):cX prog 127 [.one (.ptr nm s off),.one (.lit (.int .i64 c)),.agg (ai (enc x))] H ny
  (fun res H' _=>res= .tup []/\∀y B',up (up (up H pn none) 3015 (some ⟨ny+2,230,4,t.length+1,ar cWP (t++[(c,x)])⟩)) nm (some ⟨s,E,sz,n,tcs A B (.own 3015 (ny+2) (t.length+1) 4) (enc (au t+x))⟩) y=some B'->H' y=some B'):=by
 subst hoff;exact qO H ny nm s sz n pn sp E A B t c x hsz hnm hp hne F F1 hbH hl hc h1 h2
theorem GA (A B:List C) (x y:C) (s:GRat) (k:Nat) (h:A.length=k):(tcs A B x s).set k y=tcs A B y s:=by
 subst h;unfold tcs;rw [List.set_append_right _ _ (Nat.le_refl _),Nat.sub_self];rfl
theorem Cr {E:TypeId} {ps:List (WT×Nat)} {r s':Nat} {p:WT×Nat} {t':WT} {H':Hp} (hp:ps[r]? =some p) (h1:H' (1000*(r+1)+103)=some ⟨s',E,4,t'.length,ar cWP t'⟩) (h2:∀i q,i≠r->ps[i]? =some q->H' (1000*(i+1)+103)=some ⟨q.2,E,4,q.1.length,ar cWP q.1⟩) (l:List Nat):
  ∀x B,ji 103 E (ps.set r (t',s')) x=some B->fM l x=true∨H' x=some B:=by
 refine qR (fun i q hq=>?_) l;have hj:r<ps.length:=(List.getElem?_eq_some_iff.1 hp).1;by_cases hir:i=r
 ·subst hir;rw [List.getElem?_set_self hj] at hq;obtain rfl:=Option.some.inj hq;exact h1
 rw [List.getElem?_set_ne (fun e=>hir e.symm)] at hq;exact h2 i q hir hq
theorem tp (ps:List (WT×Nat)) (r:Nat) (p:WT×Nat) (h:ps[r]? =some p):bQ (cj 103) ps 0=tcs (bQ (cj 103) (ps.take r) 0) (bQ (cj 103) (ps.drop (r+1)) (r+1)) (.own (1000*(r+1)+103) p.2 p.1.length 4) (enc (au p.1)):=iJ (cj 103) ps r p h
theorem za (ps:List (WT×Nat)) (r:Nat) (p:WT×Nat) (t':WT) (s':Nat) (h:ps[r]? =some p):tcs (bQ (cj 103) (ps.take r) 0) (bQ (cj 103) (ps.drop (r+1)) (r+1)) (.own (1000*(r+1)+103) s' t'.length 4) (enc (au t'))=bQ (cj 103) (ps.set r (t',s')) 0:=by
 have hj:r<ps.length:=(List.getElem?_eq_some_iff.1 h).1;have h1:=tp (ps.set r (t',s')) r (t',s') (List.getElem?_set_self hj);have e1:(ps.set r (t',s')).take r=ps.take r:=by rw [List.take_set];exact List.set_eq_of_length_le (by rw [List.length_take];omega)
 have e2:(ps.set r (t',s')).drop (r+1)=ps.drop (r+1):=by rw [List.drop_set];simp
 rw [e1,e2] at h1;exact h1.symm
theorem xn:∀(ps:List (WT×Nat)) (i:Nat),bQ lJ ps i=ar cWT (ps.map (·.1))
 |[],_=>rfl
 |p::ps,i=>by rw [List.map_cons,bh,←xn ps (i+1)];rfl
theorem Jm (nx:Nat):bQ go ((List.range 8).map fun j=>(([]:WT),nx+j)) 0=[.lit (.slice none 0 0),.lit (.bool false),.lit (.string aA),.lit (.string aA),.lit (.slice none 0 0),.lit (.bool false),.lit (.string aA),.lit (.string aA),.lit (.slice none 0 0),.lit (.bool false),.lit (.string aA),.lit (.string aA),.lit (.slice none 0 0),.lit (.bool false),.lit (.string aA),.lit (.string aA),.lit (.slice none 0 0),.lit (.bool false),.lit (.string aA),.lit (.string aA),.lit (.slice none 0 0),.lit (.bool false),.lit (.string aA),.lit (.string aA),.lit (.slice none 0 0),.lit (.bool false),.lit (.string aA),.lit (.string aA),.lit (.slice none 0 0),.lit (.bool false),.lit (.string aA),.lit (.string aA)]:=by
 have e:enc (au [])=⟨false,aA,aA⟩:=ke;simp only [List.range,List.range.loop,List.map_cons,List.map_nil,bQ,go,ai,e,List.cons_append,List.nil_append]
def rkI (ps:List (WT×Nat)) (cs:List GClaim) (k:Nat):Prop:=∀(r:Nat) p,ps[r]? =some p->p.1++wRk (r:Int) (cs.drop k) k=wRk (r:Int) cs 0
theorem EQ (cs:List GClaim) (nx:Nat):rkI ((List.range 8).map fun j=>(([]:WT),nx+j)) cs 0:=fun r p h=>by
 rw [List.getElem?_map] at h;obtain ⟨i,_,rfl⟩:=Option.map_eq_some_iff.1 h;rw [List.drop_zero,List.nil_append]
theorem ER {ps:List (WT×Nat)} {cs:List GClaim} {k r s':Nat} {p:WT×Nat} (h:rkI ps cs k) (hk:k<cs.length) (hr:cs[k].rank=(r:Int)) (hp:ps[r]? =some p):rkI (ps.set r (p.1++[((k:Int),qOf cs[k].amount)],s')) cs (k+1):=fun i q hq=>by
 have hj:r<ps.length:=(List.getElem?_eq_some_iff.1 hp).1;by_cases hir:i=r
 ·subst hir;rw [List.getElem?_set_self hj] at hq;obtain rfl:=Option.some.inj hq;have h1:=h i p hp;rw [List.drop_eq_getElem_cons hk,wRk,if_pos hr] at h1;rw [←h1];simp
 rw [List.getElem?_set_ne (fun e=>hir e.symm)] at hq;have h1:=h i q hq;rw [List.drop_eq_getElem_cons hk,wRk,if_neg (by omega)] at h1;exact h1
theorem GB {ps:List (WT×Nat)} {cs:List GClaim} (h:rkI ps cs cs.length) (hl:ps.length=8):ps.map (·.1)=aF cs:=by
 refine List.ext_getElem (by rw [List.length_map,hl,fv]) fun i h1 h2=>?_
 rw [qX,List.getElem_map];have hi:i<ps.length:=by simpa using h1
 have h3:=h i ps[i] (List.getElem?_eq_getElem hi);rw [List.drop_length,wRk,List.append_nil] at h3;exact h3
theorem GC {ps:List (WT×Nat)} {cs:List GClaim} {k r:Nat} {p:WT×Nat} (h:rkI ps cs k) (hp:ps[r]? =some p):p.1.length<=cs.length/\∀x∈p.1,∃c∈cs,x.2=qOf c.amount:=by
 have h1:=h r p hp;have h2:=uL (r:Int) cs 0;rw [←h1,List.length_append] at h2;refine ⟨by omega,fun x hx=>?_⟩;have h3:x∈wRk (r:Int) cs 0:=by rw [←h1];exact List.mem_append_left _ hx
 exact (nW (r:Int) cs 0 x h3).2.2
def F52:=And.intro zS (And.intro B6 (And.intro wj (And.intro wq (And.intro ql (And.intro mc (And.intro wt (And.intro sU (And.intro FU (And.intro yI (And.intro nJ (And.intro qm (And.intro Aq (And.intro wu (And.intro G7 (And.intro qn (And.intro nK (And.intro wv (And.intro wk (And.intro DT (And.intro il (And.intro cG (And.intro jc (And.intro wy (And.intro qp (And.intro iy (And.intro Ka (And.intro yJ (And.intro wl (And.intro d7 (And.intro Kb (And.intro sV (Ao))))))))))))))))))))))))))))))))
theorem F53:type_of%F52:=F52
theorem xo (e:GEst) (K Km:Nat) (hcs:e.claims.length<=1000) (hag:e.agrs.length<=1000) (hrank:∀c∈e.claims,0<=c.rank/\c.rank<=7) (ham:∀c∈e.claims,sB K c.amount) (hK0:0<K) (hKb:K<=10000000) (hA:∀a∈e.agrs,layB e.claims a K Km):aU prog 79 [.agg (aI e)] (.val (.agg (ck (ay e)))):=by
 have hkb:K<=10000000:=hKb;have han:=hag;have hcn:=hcs;refine aT func79 rfl (by decide) (N:=57) rfl (by simp) (R:=[.cell 2 141]) rfl fun en k0=>?_
 refine awN ?_;simp only [F53,seval,aI];refine qJ (M:=fun st=>∃s3 s12 nx,st=⟨mkT [(1,.val (.one (.ptr 1 0 0))),(2,.val (.one (.ptr 2 1 0))),(3,.val (.one (.ptr 3 s3 0)))],mkH [(12,⟨s12,190,4,8,[.lit (.slice none 0 0),.lit (.bool false),.lit (.string aA),.lit (.string aA),.lit (.slice none 0 0),.lit (.bool false),.lit (.string aA),.lit (.string aA),.lit (.slice none 0 0),.lit (.bool false),.lit (.string aA),.lit (.string aA),.lit (.slice none 0 0),.lit (.bool false),.lit (.string aA),.lit (.string aA),.lit (.slice none 0 0),.lit (.bool false),.lit (.string aA),.lit (.string aA),.lit (.slice none 0 0),.lit (.bool false),.lit (.string aA),.lit (.string aA),.lit (.slice none 0 0),.lit (.bool false),.lit (.string aA),.lit (.string aA),.lit (.slice none 0 0),.lit (.bool false),.lit (.string aA),.lit (.string aA)]⟩),(1,⟨0,36,5,1,aI e⟩),(2,⟨1,141,6,1,[.lit (.int .i64 0),.lit (.slice none 0 0),.lit (.slice none 0 0),.lit (.bool false),.lit (.string aA),.lit (.string aA)]⟩),(3,⟨s3,141,6,1,.lit (.int .i64 (e.claims.length:Int)):: .own 12 s12 8 4:: .lit (.slice none 0 0)::[.lit (.bool false),.lit (.string aA),.lit (.string aA)]⟩)],nx,0⟩) ?_ ?_
 ·refine awD (scq [1,3,5] (.two 3 5 (scq [9,10,12] .nil) (scq [6,9,12] .nil))) [0,0,0,0,0,0,0] ?_;simp only [F53,seval,aI];refine ⟨?_,?_⟩
  ·intro zc zQ hM;refine ch (aC [1,2,3] [12,1,2,3]) (hM _ ⟨?_,?_,?_,?cs2⟩);case cs2=>(simp only [F53,seval];rfl)
  intro zc zQ hM;refine ch (aC [1,2,3] [12,1,2,3]) (hM _ ⟨?_,?_,?_,?cs3⟩);case cs3=>(simp only [F53,seval];rfl)
 rintro st ⟨s3,s12,nx,rfl⟩;obtain ⟨nxA,hnxA⟩:∃n,nx=n:=⟨_,rfl⟩;rw [hnxA];refine awN ?_;simp only [F53,seval,aI];refine aS [1,2,3,15,16,17] [12,1,2,3] ?_;try simp only [ak,F53,seval]
 rw [←Jm nxA];refine ch (EN 103 230 190 (by decide) 12 [(1,⟨0,36,5,1,aI e⟩),(2,⟨1,141,6,1,[.lit (.int .i64 0),.lit (.slice none 0 0),.lit (.slice none 0 0),.lit (.bool false),.lit (.string aA),.lit (.string aA)]⟩),(3,⟨s3,141,6,1,.lit (.int .i64 (e.claims.length:Int)):: .own 12 s12 8 4:: .lit (.slice none 0 0)::[.lit (.bool false),.lit (.string aA),.lit (.string aA)]⟩)] (by simp) (by decide) 8 nxA ((List.range 8).map fun j=>(([]:WT),nxA+j)) (fun j p hj=>?_)) ?_
 ·rw [List.getElem?_map] at hj;obtain ⟨i,hi,rfl⟩:=Option.map_eq_some_iff.1 hj;obtain rfl:j=i:=by obtain ⟨h1,h2⟩:=List.getElem?_eq_some_iff.1 hi;simpa using h2
  exact ⟨rfl,rfl⟩
 have e0:ai (enc 0)=[.lit (.bool false),.lit (.string aA),.lit (.string aA)]:=br;repeat' first|apply awS|apply awB
 refine aM (fun n st=>∃k ps q nx,k<=e.claims.length/\n=e.claims.length-k/\ps.length=8/\rkI ps e.claims k/\q+cx (e.claims.drop k)=cx e.claims/\qB (1+k*(K+1)) q/\st=⟨mkT [(1,.val (.one (.ptr 1 0 0))),(2,.val (.one (.ptr 2 1 0))),(3,.val (.one (.ptr 3 s3 0))),(15,.val (.one (.sh 5 e.claims.length (ar bj e.claims)))),(16,one (.int .i64 e.claims.length)),(17,one (.int .i64 k))],bC (ji 103 230 ps) [(12,⟨s12,190,4,8,bQ (cj 103) ps 0⟩),(1,⟨0,36,5,1,aI e⟩),(2,⟨1,141,6,1,[.lit (.int .i64 0),.lit (.slice none 0 0),.lit (.slice none 0 0),.lit (.bool false),.lit (.string aA),.lit (.string aA)]⟩),(3,⟨s3,141,6,1,.lit (.int .i64 (e.claims.length:Int)):: .own 12 s12 8 4:: .lit (.slice none 0 0)::ai (enc q)⟩)],nx,0⟩) (e.claims.length) ⟨0,((List.range 8).map fun j=>(([]:WT),nxA+j)),0,_,by omega,by omega,by simp,EQ _ _,by rw [List.drop_zero];grind,ce.mono (by omega),by rw [br];first|done|rfl⟩ ?_;rintro n0 st ⟨k,ps,q,nx0,hk,rfl,hpl8,hrk,htt,hqB,rfl⟩;by_cases hlt0:(k:Int)<(e.claims.length:Int)
 ·refine awN ?_;simp only [F53,seval,ai,hlt0];refine awT ?_;refine awK ?_;simp only [F53,seval];have hkl:k<e.claims.length:=by omega
  have hat:=aO dk e.claims k hkl;obtain ⟨c,hck⟩:∃c,e.claims[k]=c:=⟨_,rfl⟩;have hcm:c∈e.claims:=hck▸List.getElem_mem hkl;have hca:=ham c hcm;have hcr:=hrank c hcm;rw [hck] at hat;refine awN ?_;simp only [F53,seval,hlt0,hat,bj];repeat refine ob ?_
  have hA0:=FZ c.amount gZ K 1 hca ⟨by decide,by decide⟩ (by omega) (by decide) hK0 (by decide);rw [ml,Rat.add_zero] at hA0;simp only [ai,gZ] at hA0;refine awN ?_;simp only [F53,seval];refine ⟨_,hA0,(by first|rfl|simp [a8,aK,al,aw,A1.cells,dv,ab ax,ab az,ab bm]),?_⟩;try simp only [ak,F53,seval]
  obtain ⟨r,hr⟩:∃r:Nat,c.rank=(r:Int):=⟨c.rank.toNat,by omega⟩;have hr8:r<8:=by omega
  have hrt:c.rank.toNat=r:=by omega
  obtain ⟨p,hp⟩:∃p,ps[r]? =some p:=⟨_,List.getElem?_eq_getElem (by omega)⟩;obtain ⟨hpl,hpm⟩:=GC hrk hp;have hsp:=tp ps r p hp;have hAl:(bQ (cj 103) (ps.take r) 0).length=r*4:=by rw [lB,List.length_take];congr 1;omega
  have hBl:(bQ (cj 103) (ps.drop (r+1)) (r+1)).length=(7-r)*4:=by rw [lB,List.length_drop];congr 1;omega
  have hpq:∀x∈p.1,qB K x.2:=fun x hx=>by obtain ⟨d,h1,h2⟩:=hpm x hx;rw [h2];exact (ham d h1).qB hK0
  have hSm:qB 50000000000 (au p.1):=(lm p.1 hpq).mono (by have:=Nat.mul_le_mul (show p.1.length<=1000 by omega) (show K+1<=10000001 by omega);omega);rw [hsp];repeat' first|apply awS|apply awB
  refine cm [33] (by kernel_rfl) (.cons 0 true (.cons 1 true (.cons 2 true (.cons 3 true (.cons 4 true (.cons 5 true (.cons 6 true (.cons 7 false .nil)))))))) (by kernel_rfl) (gs:=[none,none,none,none,none,none,none,none]) (by kernel_rfl) (by simp only [zT,seval];rfl) (by decide) ?_;simp only [F53,seval,hrt,(id SD)];repeat refine ob ?_
  refine ⟨_,Gz (r*4) _ _ 12 s12 4 8 (1000*(r+1)+103) p.2 190 _ _ p.1 (k:Int) (qOf c.amount) hAl (by decide) (by rfl) (by simp only [ap];(repeat rw [if_neg (by omega)]);exact lA (by decide) hp) (by omega) (fun j h1 h2=>by refine ⟨?_,?_,?_,?_⟩<;>(simp;try omega)) (by decide) (fun y B h=>?_) (by omega) (by omega) hSm ((hca.qB hK0).mono (by omega)),?_⟩
  ·by_cases hy:y<3000∨3015<=y
   ·exact hy
   exfalso;simp only [ap] at h;repeat rw [if_neg (by omega)] at h
   obtain ⟨i,q,rfl,_,_⟩:=gU h;omega
  rintro res H' nx' ⟨rfl,hW⟩;simp only [F53,seval,(id SD)];refine cq hW ?_;refine Gq 3015 (1000*(r+1)+103) 12 (r*4) (s:=_) (n:=p.1.length+1) (sz:=4) (B:=⟨_,230,4,p.1.length+1,ar cWP (p.1++[((k:Int),qOf c.amount)])⟩) (by rfl) (B2:=⟨s12,190,4,8,_⟩) (by rfl) (by show (tcs _ _ _ _)[r*4]? =_;rw [←hAl];exact AM _ _ _ _) (by decide) (by omega) (by show (4:Nat)≠0;decide) (by show (4:Nat)≠0;decide) rfl ?_;obtain ⟨nx9,hnx9⟩:∃n,nx'=n:=⟨_,rfl⟩;have hset:(tcs (bQ (cj 103) (ps.take r) 0) (bQ (cj 103) (ps.drop (r+1)) (r+1)) (.own 3015 (nx0+2+2) (p.1.length+1) 4) (enc (au p.1+qOf c.amount))).set (r*4) (.own (1000*(r+1)+103) nx9 (p.1.length+1) 4)=bQ (cj 103) (ps.set r (p.1++[((k:Int),qOf c.amount)],nx9)) 0:=by
   rw [GA _ _ _ _ _ _ hAl,←za ps r p (p.1++[((k:Int),qOf c.amount)]) nx9 hp,eb,List.length_append];try rfl
  refine eE (ji 103 230 (ps.set r (p.1++[((k:Int),qOf c.amount)],nx9))) [1,2,3,6,15,16,17] [12,1,2,3,6] (Cr hp (by simp only [hnx9,ap];(repeat rw [if_neg (by omega)]);rw [if_pos trivial];simp) (fun i q hi hq=>by simp only [ap];(repeat rw [if_neg (by omega)]);exact lA (by decide) hq) _) ?_;have F9:∀j,j<1000->((1000*(r+1)+103=j)=False/\(j=1000*(r+1)+103)=False):=fun j hj=>⟨by simp;omega,by simp;omega⟩
  simp only [F53,seval,hnx9,hset];have hT:=tg q (qOf c.amount) _ K hqB (hca.qB hK0) (by have:=Nat.mul_le_mul (show k<=1000 by omega) (show K+1<=10000001 by omega);omega) (by omega);simp only [ai] at hT;have hqn:qB (1+(k+1)*(K+1)) (q+qOf c.amount):=(hqB.add (hca.qB hK0)).mono (by rw [Nat.succ_mul];omega);refine awN ?_;simp only [F53,seval];refine ⟨_,hT,(by first|rfl|simp [a8,aK,al,aw,A1.cells,dv,ab ax,ab az,ab bm]),?_⟩;try simp only [ak,F53,seval]
  refine awN ?_;simp only [F53,seval];repeat refine ob ?_
  refine ⟨_,dq (ji 103 230 (ps.set r (p.1++[((k:Int),qOf c.amount)],nx9))) [1,2,3,15,16,17] [12,1,2,3] (qR (fun i q hq=>by simp only [ap];(repeat rw [if_neg (by omega)]);exact lA (by decide) hq) _),e.claims.length-(k+1),by omega,k+1,(ps.set r (p.1++[((k:Int),qOf c.amount)],nx9)),q+qOf c.amount,?nn12,by omega,rfl,by rw [List.length_set];exact hpl8,by rw [←hck] at hr ⊢;exact ER hrk hkl hr hp,?tt12,hqn,?st12⟩;case st12=>(simp only [F53,seval];first|rfl|(simp;done))
  case tt12=>(rw [List.drop_eq_getElem_cons hkl,cx,hck] at htt;grind)
 refine awN ?_;simp only [F53,seval,ai,hlt0];refine awF ?_;refine awQ ?_;simp only [F53,seval];obtain rfl:k=e.claims.length:=by omega
 have hrk9:=GB hrk hpl8;refine eE (ji 103 230 ps) [1,2,3,15,16,17] [12,1,2,3] (qR (fun i q hq=>by simp only [ap];(repeat rw [if_neg (by omega)]);exact lA (by decide) hq) _) ?_;simp only [F53,seval];refine ch (EO 103 230 190 (by decide) 12 [(1,⟨0,36,5,1,aI e⟩),(2,⟨1,141,6,1,[.lit (.int .i64 0),.lit (.slice none 0 0),.lit (.slice none 0 0),.lit (.bool false),.lit (.string aA),.lit (.string aA)]⟩),(3,⟨s3,141,6,1,.lit (.int .i64 (e.claims.length:Int)):: .own 12 s12 8 4:: .lit (.slice none 0 0)::ai (enc q)⟩)] (by simp) (by decide) 8 _ ps) ?_;rw [xn,hrk9];simp only [F53,seval];refine bE 12 3 1 (by rfl) (by rfl) (by rfl) (by decide) (by show (4:Nat)≠0;decide) (by show (6:Nat)≠0;decide) rfl ?_;simp only [F53,seval];refine awN ?_;simp only [F53,seval,ai,aI];refine fK 3 2 53 _ 193 2 (by decide) (by rfl) (by decide) (by simp) (by rfl) ?_;refine aS [1,2,3,41,42,43] [1,2,3,53] ?_;try simp only [ak,F53,seval]
 repeat' first|apply awS|apply awB
 refine aM (fun n st=>∃i1 out sp nx,i1<=e.agrs.length/\n=e.agrs.length-i1/\out++List.map (ba e.claims) (e.agrs.drop i1)=[]++List.map (ba e.claims) e.agrs/\out.length=i1/\st=⟨mkT [(1,.val (.one (.ptr 1 0 0))),(2,.val (.one (.ptr 2 1 0))),(3,.val (.one (.ptr 3 s3 0))),(41,.val (.one (.sh 1 e.agrs.length (ar bz e.agrs)))),(42,one (.int .i64 e.agrs.length)),(43,one (.int .i64 i1))],mkH [(1,⟨0,36,5,1,aI e⟩),(2,⟨1,141,6,1,[.lit (.int .i64 0),.lit (.slice none 0 0),.lit (.slice none 0 0),.lit (.bool false),.lit (.string aA),.lit (.string aA)]⟩),(3,⟨s3,141,6,1,.lit (.int .i64 (e.claims.length:Int)):: .sh 4 8 (ar cWT (aF e.claims)):: .own 53 sp out.length 2::ai (enc q)⟩),(53,⟨sp,193,2,out.length,ar dv out⟩)],nx,0⟩) (e.agrs.length) ⟨0,[],_,_,by omega,by omega,by rfl,(by first|omega|assumption|rfl|simp|(simp;omega)),rfl⟩ ?_;rintro n1 st ⟨i1,out,sp,nx1,hk1,rfl,hL1,hV1_1,rfl⟩;by_cases hlt1:i1<e.agrs.length
 ·have hI1:(i1:Int)<(e.agrs.length:Int):=by omega
  have hat1:=aO jd e.agrs i1 hlt1;try rw [Nat.mul_one] at hat1
  rw [List.drop_eq_getElem_cons hlt1] at hL1;have hla:=hA _ (List.getElem_mem hlt1);generalize e.agrs[i1]=a at *
  simp only [List.map_cons] at hL1;refine awN ?_;simp only [F53,seval,ai,hI1];refine awT ?_;refine awK ?_;simp only [F53,seval];refine awN ?_;simp only [F53,seval,hI1,hat1,bz];repeat refine ob ?_
  have hLy:=Ks e a K Km hla;refine awD (scT 0 4 (scq [8,10,12,15,16] .nil)) [0,0,0,0,0,0,0,0,0] ?_;simp only [F53,seval,aI,ab av,ab aB,ab bR];refine ⟨_,hLy,(by first|rfl|simp [al,aw,dv,ab az,ab bm]),?_⟩;try simp only [ak,F53,seval,dv]
  repeat refine ob ?_
  refine awN ?_;simp only [F53,seval];repeat refine ob ?_
  refine ⟨_,aC [1,2,3,41,42,43] [1,2,3,53],e.agrs.length-(i1+1),by omega,i1+1,(out++[ba e.claims a]),?a18_sp,?a18_nx,by omega,rfl,?i18_0,?i18_1,?st18⟩;case st18=>(simp only [F53,seval,aG,dv,List.length_append];first|rfl|(simp [aI,aG,dv,List.length_append,List.length_cons,List.length_nil,hlt0,hI1,hat1,Nat.add_mul];done))
  case i18_0=>(simpa using hL1)
  all_goals (first|omega|assumption|(simp;omega)|(simp_all;done))
 obtain rfl:i1=e.agrs.length:=by omega
 have hI1:¬(e.agrs.length:Int)<(e.agrs.length:Int):=by omega
 rw [List.drop_length] at hL1;simp only [List.map_nil,List.append_nil] at hL1;subst hL1;refine awN ?_;simp only [F53,seval,ai,hI1];refine awF ?_;refine awQ ?_;simp only [F53,seval];refine bE 53 3 2 (by rfl) (by rfl) (by rfl) (by decide) (by show (2:Nat)≠0;decide) (by show (6:Nat)≠0;decide) rfl ?_;simp only [F53,seval];refine awN ?_;simp only [F53,seval];refine awX ?_;simp only [F53,seval,ab ax,ab az];have hq9:q=cx e.claims:=by rw [List.drop_length] at htt;simp only [cx] at htt;grind
 simp [ck,ay,hq9,fv,ai]
theorem nX {d:Array Int}:∀m,m<=d.size->(∀i j (hi:i<d.size) (hj:j<d.size),i<=j->d[i]<=d[j])->
  (Lib.compactUpTo d m).Nodup/\∀x∈Lib.compactUpTo d m,∃j,∃h:j<d.size,j<m/\x=d[j]
 |0,_,_=>by simp [Lib.compactUpTo]
 |m+1,hm,hs=>by
  obtain ⟨h1,h2⟩:=nX m (by omega) hs;have hlt:m<d.size:=by omega
  rw [Lib.compactUpTo_succ];by_cases hk:Lib.keeps d m=true
  ·rw [if_pos hk];have hg:d[m]! =d[m]:=getElem!_pos d m hlt;constructor
   ·rw [List.nodup_append];refine ⟨h1,by simp,?_⟩;intro a ha b hb;obtain ⟨j,hj,hjm,rfl⟩:=h2 a ha;simp only [List.mem_singleton] at hb;subst hb;rw [hg];have h3:d[m-1]!≠d[m]! :=by
     unfold Lib.keeps at hk;rcases Nat.eq_zero_or_pos m with h0|h0
     ·omega
     intro h;simp [h] at hk;omega
    rw [hg,getElem!_pos d (m-1) (by omega)] at h3;have h4:=hs j (m-1) hj (by omega) (by omega);have h5:=hs (m-1) m (by omega) hlt (by omega);omega
   intro x hx;rcases List.mem_append.1 hx with hx|hx
   ·obtain ⟨j,hj,hjm,rfl⟩:=h2 x hx;exact ⟨j,hj,by omega,rfl⟩
   simp only [List.mem_singleton] at hx;subst hx;exact ⟨m,hlt,by omega,hg⟩
  rw [if_neg hk,List.append_nil];exact ⟨h1,fun x hx=>by obtain ⟨j,hj,hjm,e⟩:=h2 x hx;exact ⟨j,hj,by omega,e⟩⟩
theorem uM {d:Array Int}:∀m,m<=d.size->∀j (h:j<d.size),j<m->d[j]∈Lib.compactUpTo d m
 |0,_,_,_,h=>absurd h (by omega)
 |m+1,hm,j,hj,hjm=>by
  have hlt:m<d.size:=by omega
  rw [Lib.compactUpTo_succ];by_cases hjm':j<m
  ·exact List.mem_append_left _ (uM m (by omega) j hj hjm')
  have:j=m:=by omega
  subst this;by_cases hk:Lib.keeps d j=true
  ·rw [if_pos hk,getElem!_pos d j hlt];exact List.mem_append_right _ (by simp)
  rw [if_neg hk,List.append_nil];have h3:j≠0/\d[j-1]! =d[j]! :=by
   unfold Lib.keeps at hk;rcases Nat.eq_zero_or_pos j with h0|h0
   ·subst h0;simp at hk
   refine ⟨by omega,?_⟩;have h9:¬j=0:=by omega
   have h8:¬¬d[j]! =d[j-1]! :=fun h=>hk (by simp [h9,h])
   exact (Classical.not_not.1 h8).symm
  rw [getElem!_pos d j hlt,getElem!_pos d (j-1) (by omega)] at h3;rw [←h3.2];exact uM j (by omega) (j-1) (by omega) (by omega)
theorem oO (zs:List Int):∀i j (hi:i<(cY zs).toArray.size) (hj:j<(cY zs).toArray.size),i<=j->(cY zs).toArray[i]<=(cY zs).toArray[j]:=fun i j hi hj hij=>by
 have h1:(cY zs).Pairwise fun x y=>decide (x<=y)=true:=by
  unfold cY;exact List.pairwise_mergeSort (fun a b c h1 h2=>by simp at *;omega) (fun a b=>by simp;omega) zs
 rcases Nat.lt_or_eq_of_le hij with h|rfl
 ·have:=List.pairwise_iff_getElem.1 h1 i j (by simpa using hi) (by simpa using hj) h;simpa using this
 exact Int.le_refl _
theorem lD (a:bP):(mem a).Nodup:=(nX _ (by simp) (oO _)).1
theorem AW:∀{l:List GPart} {p:GPart},p∈l->p.claim≠ -1->p.claim∈dV l
 |q::l,p,h,hc=>by
  simp only [dV];rcases List.mem_cons.1 h with rfl|h
  ·rw [if_neg hc];simp
  have:=AW h hc;split
  ·exact this
  exact List.mem_cons_of_mem _ this
theorem Jn {a:bP} {p:GPart} (h:p∈a.flatten) (hc:p.claim≠ -1):p.claim∈mem a:=by
 have h1:p.claim∈cY (dV a.flatten):=by
  unfold cY;rw [List.mem_mergeSort];exact AW h hc
 obtain ⟨j,hj,he⟩:=List.getElem_of_mem h1;have h2:=uM (d:=(cY (dV a.flatten)).toArray) (cY (dV a.flatten)).length (by simp) j (by simpa using hj) hj;unfold mem Lib.compact;rw [←he];simpa using h2
theorem xp (i:Int):∀(l m:List WT),fr i (l++m)=fr i l+fr i m
 |[],m=>by simp only [List.nil_append,fr];grind
 |t::l,m=>by simp only [List.cons_append,fr,xp i l m];grind
theorem xq:∀(l m:List WT),cK (l++m)=cK l+cK m
 |[],m=>by simp only [List.nil_append,cK];grind
 |t::l,m=>by simp only [List.cons_append,cK,xq l m];grind
def pOK (n:Nat) (x:GPart):Prop:=inR n x.claim/\(x.claim= -1∨x.capped=true->0<=qOf x.cap)
def rNN (l:List Rat):Prop:=∀x∈l,0<=x
theorem ph {l:List Rat} (h:rNN l) (i:Nat):0<=l.getD i 0:=by
 rw [List.getD_eq_getElem?_getD];cases hx:l[i]? with
 |none=>simp
 |some e=>exact h e (List.mem_of_getElem? hx)
theorem ES {n:Nat} {rest:List Rat} {x:GPart} (hx:pOK n x) (hn:rest.length=n) (hr:rNN rest):
  (cV rest x).1.length=n/\rNN (cV rest x).1/\0<=(cV rest x).2/\∀i:Nat,(cV rest x).1.getD i 0+(if x.claim=(i:Int) then (cV rest x).2 else 0)=rest.getD i 0:=by
 unfold cV;by_cases h1:x.claim= -1
 ·simp only [h1,if_true];refine ⟨hn,hr,hx.2 (.inl h1),fun i=>?_⟩;have h2:¬((-1:Int)=(i:Int)):=by omega
  rw [if_neg h2];grind
 simp only [h1,if_false];rcases hx.1 with h|⟨h2,h3⟩
 ·exact absurd h h1
 have h4:=ph hr x.claim.toNat;have h5:0<=(if x.capped=true then bT (rest.getD x.claim.toNat 0) (qOf x.cap) else rest.getD x.claim.toNat 0)/\(if x.capped=true then bT (rest.getD x.claim.toNat 0) (qOf x.cap) else rest.getD x.claim.toNat 0)<=rest.getD x.claim.toNat 0:=by
  by_cases hc:x.capped=true
  ·have h6:=hx.2 (.inr hc);rw [if_pos hc];unfold bT;split<;>grind
  rw [if_neg hc];grind
 generalize (if x.capped=true then bT (rest.getD x.claim.toNat 0) (qOf x.cap) else rest.getD x.claim.toNat 0)=c at *
 refine ⟨by rw [List.length_set];exact hn,fun y hy=>?_,h5.1,fun i=>?_⟩
 ·rcases List.mem_or_eq_of_mem_set hy with hy|rfl
  ·exact hr y hy
  grind
 by_cases h6:x.claim=(i:Int)
 ·have h7:x.claim.toNat=i:=by omega
  rw [if_pos h6,h7,lS (by omega)];grind
 have h7:x.claim.toNat≠i:=by omega
 rw [if_neg h6,eH h7];grind
theorem xr {n:Nat}:∀(t:List GPart) (rest:List Rat),(∀x∈t,pOK n x)->rest.length=n->rNN rest->
  (cy t rest).1.length=n/\rNN (cy t rest).1/\(∀p∈(cy t rest).2,0<=p.2)/\(∀i:Nat,(cy t rest).1.getD i 0+wAt (i:Int) (cy t rest).2=rest.getD i 0)/\(cy t rest).2.map (·.1)=t.map (·.claim)
 |[],rest,_,hn,hr=>⟨hn,hr,by simp [cy],fun i=>by simp only [cy,wAt];grind,rfl⟩
 |x::t,rest,h,hn,hr=>by
  obtain ⟨a1,a2,a3,a4⟩:=ES (h x (by simp)) hn hr;obtain ⟨b1,b2,b3,b4,b5⟩:=xr t (cV rest x).1 (fun y hy=>h y (by simp [hy])) a1 a2;refine ⟨b1,b2,fun p hp=>?_,fun i=>?_,?_⟩
  ·simp only [cy] at hp;rcases List.mem_cons.1 hp with rfl|hp
   ·exact a3
   exact b3 p hp
  ·have h1:=a4 i;have h2:=b4 i;simp only [cy,wAt];grind
  simp only [cy,List.map_cons,b5]
theorem nY {n:Nat}:∀(a:List (List GPart)) (rest:List Rat),(∀t∈a,∀x∈t,pOK n x)->rest.length=n->rNN rest->
  (bD a rest).1.length=n/\rNN (bD a rest).1/\wNN (bD a rest).2/\(∀i:Nat,(bD a rest).1.getD i 0+fr (i:Int) (bD a rest).2=rest.getD i 0)/\(bD a rest).2.map (fun t=>t.map (·.1))=a.map fun t=>t.map (·.claim)
 |[],rest,_,hn,hr=>⟨hn,hr,by simp [bD,wNN],fun i=>by simp only [bD,fr];grind,rfl⟩
 |t::a,rest,h,hn,hr=>by
  obtain ⟨a1,a2,a3,a4,a5⟩:=xr t rest (h t (by simp)) hn hr;obtain ⟨b1,b2,b3,b4,b5⟩:=nY a (cy t rest).1 (fun y hy=>h y (by simp [hy])) a1 a2;refine ⟨b1,b2,fun u hu=>?_,fun i=>?_,?_⟩
  ·simp only [bD] at hu;rcases List.mem_cons.1 hu with rfl|hu
   ·exact a3
   exact b3 u hu
  ·have h1:=a4 i;have h2:=b4 i;simp only [bD,fr];grind
  simp only [bD,List.map_cons,a5,b5]
theorem xu (rest:List Rat):∀(M:List Int) (i:Int),M.Nodup->wAt i (fa M rest)=if i∈M then rest.getD i.toNat 0 else 0
 |[],i,_=>by simp [fa,wAt]
 |j::M,i,h=>by
  have h1:=xu rest M i (List.nodup_cons.1 h).2;have h2:=(List.nodup_cons.1 h).1;simp only [fa,List.map_cons,wAt] at h1 ⊢;rw [h1];by_cases h3:j=i
  ·subst h3;rw [if_pos rfl,if_neg h2,if_pos (by simp)];grind
  have h4:i∈j::M↔i∈M:=by simp [Ne.symm h3]
  rw [if_neg h3];simp only [h4];grind
structure pLad (cs:List GClaim) (p:ci):Prop where
 nd:p.1.Nodup
 inn:∀i∈p.1,0<=i/\i<(cs.length:Int)
 nn:wNN p.2
 rin:∀t∈p.2,∀x∈t,x.1= -1∨x.1∈p.1
 cap:∀i:Nat,(i:Int)∈p.1->fr (i:Int) p.2=(cs.map fun c=>qOf c.amount).getD i 0
def aOK (n:Nat) (a:bP):Prop:=∀t∈a,∀x∈t,pOK n x
theorem q8 {cs:List GClaim} {a:bP} (ha:aOK cs.length a) (hc:∀c∈cs,0<=qOf c.amount):pLad cs (ba cs a):=by
 have hr:rNN (cs.map fun c=>qOf c.amount):=fun x hx=>by
  obtain ⟨c,h1,rfl⟩:=List.mem_map.1 hx;exact hc c h1
 obtain ⟨b1,b2,b3,b4,b5⟩:=nY a (cs.map fun c=>qOf c.amount) ha (by simp) hr;have hin:∀i∈mem a,0<=i/\i<(cs.length:Int):=fun i hi=>by
  obtain ⟨p,h1,h2,h3⟩:=jC (lk hi);obtain ⟨t,ht,hp⟩:=List.mem_flatten.1 h1;rcases (ha t ht p hp).1 with h|h
  ·exact absurd h h3
  rw [←h2];exact h
 refine ⟨lD a,hin,fun t ht p hp=>?_,fun t ht p hp=>?_,fun i hi=>?_⟩
 ·rcases List.mem_append.1 ht with ht|ht
  ·exact b3 t ht p hp
  simp only [List.mem_singleton] at ht;subst ht;obtain ⟨j,_,rfl⟩:=List.mem_map.1 hp;exact ph b2 _
 ·rcases List.mem_append.1 ht with ht|ht
  ·have h1:t.map (·.1)∈(bD a (cs.map fun c=>qOf c.amount)).2.map (fun t=>t.map (·.1)):=List.mem_map.2 ⟨t,ht,rfl⟩;rw [b5] at h1;obtain ⟨u,hu,he⟩:=List.mem_map.1 h1;have h2:p.1∈u.map (·.claim):=by rw [he];exact List.mem_map.2 ⟨p,hp,rfl⟩
   obtain ⟨x,hx,hxe⟩:=List.mem_map.1 h2;by_cases h3:x.claim= -1
   ·exact .inl (by rw [←hxe];exact h3)
   exact .inr (by rw [←hxe];exact Jn (List.mem_flatten.2 ⟨u,hu,hx⟩) h3)
  simp only [List.mem_singleton] at ht;subst ht;obtain ⟨j,hj,rfl⟩:=List.mem_map.1 hp;exact .inr hj
 have h1:=b4 i;show fr (i:Int) ((bD a _).2++[fa (mem a) (bD a _).1])=_;rw [xp];have hi':(i:Int)∈mem a:=hi;simp only [fr,xu _ _ _ (lD a),hi',if_true,Int.toNat_natCast];grind
theorem jJ {g:List Rat} (h:rNN g):∀M:List Int,0<=aQ g M
 |[]=>by simp [aQ]
 |i::M=>by
  have h1:=jJ h M;have h2:=ph h i.toNat;rw [aQ];grind
theorem uN {g a:List Rat} (h:∀i:Nat,g.getD i 0<=a.getD i 0):∀M:List Int,aQ g M<=aQ a M
 |[]=>by simp [aQ]
 |i::M=>by
  have h1:=uN h M;have h2:=h i.toNat;rw [aQ,aQ];grind
def nZ (M:List Int) (t:WT):Rat:=(M.map fun i=>wAt i t).foldr (·+·) 0
def m8 (M:List Int) (l:List WT):Rat:=(M.map fun i=>fr i l).foldr (·+·) 0
theorem xv:∀M,nZ M []=0
 |[]=>rfl
 |i::M=>by
  have:=xv M;simp only [nZ,List.map_cons,List.foldr_cons,wAt] at this ⊢;rw [this];grind
theorem q9 (c:Int) (x:Rat) (t:WT):∀M:List Int,c∉M->nZ M ((c,x)::t)=nZ M t
 |[],_=>rfl
 |i::M,h=>by
  have h1:=q9 c x t M fun hm=>h (by simp [hm])
  have h2:¬c=i:=fun e=>h (by simp [e])
  simp only [nZ,List.map_cons,List.foldr_cons,wAt,h2,if_false] at h1 ⊢;rw [h1];grind
theorem AX (c:Int) (x:Rat) (t:WT):∀M:List Int,M.Nodup->c∈M->nZ M ((c,x)::t)=x+nZ M t
 |i::M,hn,h=>by
  have h0:=List.nodup_cons.1 hn;by_cases h2:c=i
  ·subst h2;have h1:=q9 c x t M h0.1;simp only [nZ,List.map_cons,List.foldr_cons,wAt,if_true] at h1 ⊢;rw [h1];grind
  have h3:c∈M:=by
   rcases List.mem_cons.1 h with h|h
   ·exact absurd h h2
   exact h
  have h1:=AX c x t M h0.2 h3;simp only [nZ,List.map_cons,List.foldr_cons,wAt,h2,if_false] at h1 ⊢;rw [h1];grind
theorem ra {M:List Int} (hn:M.Nodup) (hM:(-1:Int)∉M):∀t:WT,(∀x∈t,x.1= -1∨x.1∈M)->au t=nZ M t+wAt (-1) t
 |[],_=>by rw [xv];simp only [au,wAt];grind
 |p::t,h=>by
  have h1:=ra hn hM t fun x hx=>h x (by simp [hx])
  obtain ⟨c,x⟩:=p;rcases h (c,x) (by simp) with h2|h2
  ·simp only at h2;subst h2;rw [q9 _ _ _ _ hM,au,h1];simp only [wAt,if_true];grind
  have h3:¬c= -1:=fun e=>hM (by rw [←e];exact h2)
  rw [AX _ _ _ _ hn h2,au,h1];simp only [wAt,h3,if_false];grind
theorem tq:∀M,m8 M []=0
 |[]=>rfl
 |i::M=>by
  have:=tq M;simp only [m8,List.map_cons,List.foldr_cons,fr] at this ⊢;rw [this];grind
theorem rd (t:WT) (l:List WT):∀M,m8 M (t::l)=nZ M t+m8 M l
 |[]=>by simp [m8,nZ];grind
 |i::M=>by
  have:=rd t l M;simp only [m8,nZ,List.map_cons,List.foldr_cons,fr] at this ⊢;rw [this];grind
theorem re {M:List Int} (hn:M.Nodup) (hM:(-1:Int)∉M):∀l:List WT,(∀t∈l,∀x∈t,x.1= -1∨x.1∈M)->cK l=m8 M l+fr (-1) l
 |[],_=>by rw [tq];simp only [cK,fr];grind
 |t::l,h=>by
  have h1:=re hn hM l fun x hx=>h x (by simp [hx])
  rw [cK,fr,rd,ra hn hM t (h t (by simp)),h1];grind
theorem tt {cs:List GClaim} {p:ci} (h:pLad cs p):∀M:List Int,(∀i∈M,i∈p.1)->m8 M p.2=aQ (cs.map fun c=>qOf c.amount) M
 |[],_=>rfl
 |i::M,hM=>by
  have h1:=tt h M fun x hx=>hM x (by simp [hx])
  have h2:=h.inn i (hM i (by simp));have h3:=h.cap i.toNat (by rw [Int.toNat_of_nonneg h2.1];exact hM i (by simp));rw [Int.toNat_of_nonneg h2.1] at h3;simp only [m8,aQ,List.map_cons,List.foldr_cons] at h1 ⊢;rw [h1,h3]
theorem uO (i:Int):∀l,wNN l->0<=fr i l
 |[],_=>by simp [fr]
 |t::l,h=>by
  have h1:=uO i l fun x hx=>h x (by simp [hx])
  have h2:=mp i t (h t (by simp));rw [fr];grind
def rMs (a:bP):Nat->Nat->List Int
 |0,_=>[]
 |n+1,i=>if mbA (i:Int) a=true then (i:Int)::rMs a n (i+1) else rMs a n (i+1)
theorem uP (a:bP):∀(n i:Nat) (c:Int),c∈rMs a n i↔(i:Int)<=c/\c<((i+n:Nat):Int)/\mbA c a=true
 |0,i,c=>by simp [rMs];omega
 |n+1,i,c=>by
  have h1:=uP a n (i+1) c;rw [rMs];by_cases hc:c=(i:Int)
  ·subst hc;split
   ·rename_i h;simp [h];omega
   rename_i h;rw [h1];simp [h]
  split
  ·rw [List.mem_cons,h1];constructor
   ·rintro (h|h)
    ·exact absurd h hc
    exact ⟨by omega,by omega,h.2.2⟩
   exact fun h=> .inr ⟨by omega,by omega,h.2.2⟩
  rw [h1];constructor
  ·exact fun h=>⟨by omega,by omega,h.2.2⟩
  exact fun h=>⟨by omega,by omega,h.2.2⟩
theorem zd (a:bP):∀n i,(rMs a n i).Pairwise (·<·)
 |0,_=> .nil
 |n+1,i=>by
  have h1:=zd a n (i+1);rw [rMs];split
  ·refine List.pairwise_cons.2 ⟨fun x hx=>?_,h1⟩;have:=(uP a n (i+1) x).1 hx;omega
  exact h1
theorem rf {d:Array Int} (hs:∀i j (hi:i<d.size) (hj:j<d.size),i<=j->d[i]<=d[j]):∀m,m<=d.size->(Lib.compactUpTo d m).Pairwise (·<=·)
 |0,_=>by simp [Lib.compactUpTo]
 |m+1,hm=>by
  have h1:=rf hs m (by omega);have hlt:m<d.size:=by omega
  rw [Lib.compactUpTo_succ];split
  ·rw [List.pairwise_append];refine ⟨h1,by simp,fun x hx y hy=>?_⟩;obtain ⟨j,hj,hjm,rfl⟩:=(nX m (by omega) hs).2 x hx;simp only [List.mem_singleton] at hy;subst hy;rw [getElem!_pos d m hlt];exact hs j m hj hlt (by omega)
  rw [List.append_nil];exact h1
theorem AY (a:bP) (c:Int) (hc:c≠ -1):mbA c a=true↔c∈mem a:=by
 rw [qz,uA c hc,Aw];simp
theorem zj {a:bP} {n:Nat} (h:∀t∈a,∀x∈t,inR n x.claim):mem a=rMs a n 0:=by
 have hin:∀i∈mem a,0<=i/\i<(n:Int):=fun i hi=>by
  obtain ⟨p,h1,h2,h3⟩:=jC (lk hi);obtain ⟨t,ht,hp⟩:=List.mem_flatten.1 h1;rcases h t ht p hp with h4|h4
  ·exact absurd h4 h3
  rw [←h2];exact h4
 refine List.Perm.eq_of_pairwise (le:=fun x y=>x<=y) (fun x y _ _ h1 h2=>Int.le_antisymm h1 h2) (rf (oO _) _ (by simp)) ((zd a n 0).imp fun h=>Int.le_of_lt h) ?_;refine (List.perm_ext_iff_of_nodup (lD a) ((zd a n 0).imp fun h=>by omega)).2 fun c=>?_
 rw [uP];constructor
 ·intro hc;have h1:=hin c hc;exact ⟨by omega,by omega,(AY a c (by omega)).2 hc⟩
 intro hc;exact (AY a c (by omega)).1 hc.2.2
theorem GD (r:GRat) (m:Nat) (h:sB m r) (hm:m<=100000000000):aU prog 148 [.agg (ai r)] (.val (.agg (ai (enc (ye (qOf r)))))):=
 bf (b8 func148 (by decide) (by kernel_rfl)) [aE r] (aE (enc (ye (qOf r)))) fun w=>yP r m w h hm
theorem AZ (r:GRat) (m:Nat) (h:sB m r) (hm:m<=100000000000):aU prog 116 [.agg (ai r)] (.val (.agg (ai (enc (qOf r))))):=Lq r (by have:=h.1;omega) (by have:=h.2;omega)
noncomputable def cRT (t:WT):List C:=[.sh 4 t.length (ar cWP t)]
theorem GE (t:WT):(cRT t).length=1:=rfl
theorem bp:∀t:WT,al (cRT t)=true:=fun t=>by simp [cRT,al,aw,ab bN]
def wSm:WT->Rat->Rat
 |[],s=>s
 |p::t,s=>wSm t (s+p.2)
theorem ET:∀(t:WT) (s:Rat),wSm t s=s+au t
 |[],s=>by rw [wSm,au];grind
 |p::t,s=>by rw [wSm,au,ET t];grind
noncomputable def wTl:List GClaim->Rat->Rat
 |[],s=>s
 |c::l,s=>wTl l (s+qOf c.amount)
theorem EU:∀(l:List GClaim) (s:Rat),wTl l s=s+cx l
 |[],s=>by rw [wTl,cx];grind
 |c::l,s=>by rw [wTl,cx,EU l];grind
noncomputable def uQ (r:Int) (l:List GClaim) (i:Nat) (out:WT):WT:=out++wRk r l i
theorem EV (r:Int) (i:Nat) (out:WT):uQ r [] i out=out:=by simp [uQ,wRk]
theorem Cs (r:Int) (c:GClaim) (l:List GClaim) (i:Nat) (out:WT):uQ r (c::l) i out=if c.rank=r then uQ r l (i+1) (out++[((i:Int),qOf c.amount)]) else uQ r l (i+1) out:=by
 unfold uQ;rw [wRk];split<;>simp
theorem GF (cs:List GClaim) (k:Nat) (hk:k<8):(aF cs).take (k+1)=(aF cs).take k++[wRk (k:Int) cs 0]:=by
 unfold aF;rw [←List.map_take,←List.map_take,List.take_range,List.take_range,show min (k+1) 8=k+1 by omega,show min k 8=k by omega,List.range_succ,List.map_append];rfl
theorem Jo (cs:List GClaim):(aF cs).take 8=aF cs:=List.take_of_length_le (by unfold aF;simp)
def F54:=And.intro zS (And.intro G8 (And.intro Ar (And.intro G9 (And.intro cG (And.intro iy (d7))))))
theorem F55:type_of%F54:=F54
theorem Jp (t:WT) (K:Nat) (hl:t.length<=1000) (hK:∀p∈t,qB K p.2) (hKb:K<=10000000):aU prog 219 [.one (.sh 4 t.length (ar cWP t))] (.val (.agg (ai (enc (au t))))):=by
 refine aT func219 rfl (by decide) (N:=20) rfl (by simp) (R:=[.cell 2 32]) rfl fun en k0=>?_
 refine awN ?_;simp only [F55,seval,ai];refine awN ?_;simp only [F55,seval];refine awN ?_;simp only [F55,seval];have hV0:qB (1+0*(K+1)) 0:=ce.mono (by omega);refine ch (dl 3 (ai (enc 0)) (by rfl) (by show (3:Nat)≠0;decide) (by rfl) (fun κ vs h=>by rw [br];exact h)) ?_;simp only [F55,seval];refine aS [0,2,3,4] [2,3] ?_;try simp only [ak,F55,seval,ai]
 repeat' first|apply awS|apply awB
 refine aM (fun n st=>∃i0 s nx,i0<=t.length/\n=t.length-i0/\wSm (t.drop i0) s=wSm t 0/\qB (1+i0*(K+1)) s/\st=⟨mkT [(0,.val (.one (.sh 4 t.length (ar cWP t)))),(2,.val (.one (.ptr 2 0 0))),(3,.val (.one (.ptr 3 1 0))),(4,one (.int .i64 i0))],mkH [(2,⟨0,32,3,1,[.lit (.bool false),.lit (.string aA),.lit (.string aA)]⟩),(3,⟨1,32,3,1,ai (enc s)⟩)],nx,0⟩) (t.length) ⟨0,0,_,by omega,by omega,by rfl,(by first|omega|assumption|rfl|simp|(simp;omega)),rfl⟩ ?_;rintro n0 st ⟨i0,s,nx0,hk0,rfl,hL0,hV0_1,rfl⟩;by_cases hlt0:i0<t.length
 ·have hI0:(i0:Int)<(t.length:Int):=by omega
  have hat0:=aO pg t i0 hlt0;try rw [Nat.mul_one] at hat0
  rw [List.drop_eq_getElem_cons hlt0] at hL0;have hpm:=(List.getElem_mem hlt0);have hnx:=(hV0_1.add (hK _ hpm)).mono (n:=1+(i0+1)*(K+1)) (by rw [Nat.succ_mul];omega);generalize t[i0]=p at *
  simp only [wSm] at hL0;refine awN ?_;simp only [F55,seval,ai,hI0];refine awT ?_;refine awK ?_;simp only [F55,seval];have hA:=mV s p.2 _ K hV0_1 (hK _ hpm) (by have:=Nat.mul_le_mul (show i0<=1000 by omega) (show K+1<=10000001 by omega);omega) (by omega);simp only [ai] at hA;refine awD (scT 0 6 (scq [12,14] .nil)) [0,0,0,0,0,0,0,0] ?_;simp only [F55,seval,ai,hI0,hat0,cWP];repeat refine ob ?_
  refine ⟨_,hA,rfl,?_⟩;try simp only [ak,F55,seval]
  refine awN ?_;simp only [F55,seval];repeat refine ob ?_
  refine ⟨_,aC [0,2,3,4] [2,3],t.length-(i0+1),by omega,i0+1,(s+p.2),?a6_nx,by omega,rfl,?i6_0,?i6_1,?st6⟩;case st6=>(simp only [F55,seval];first|rfl|(simp [hI0,hat0,Nat.add_mul];done))
  case i6_0=>(first|exact hL0|(rw [←hL0];simp only [reduceIte,hI0,hat0];done)|(rw [←hL0];simp [hI0,hat0];done)|(simp [hI0,hat0] at hL0;simpa using hL0)|(rw [←hL0];simp [*];done))
  all_goals (first|omega|assumption|(simp;omega)|(simp_all;done))
 obtain rfl:i0=t.length:=by omega
 have hI0:¬(t.length:Int)<(t.length:Int):=by omega
 rw [List.drop_length] at hL0;simp only [wSm] at hL0;refine awN ?_;simp only [F55,seval,ai,hI0];refine awF ?_;refine awQ ?_;simp only [F55,seval];refine awN ?_;simp only [F55,seval];refine awX ?_;simp only [F55,seval];rw [ET,Rat.zero_add] at hL0;simp [←hL0]
def F56:=And.intro zS (And.intro wj (And.intro mc (And.intro yI (And.intro nJ (And.intro nK (And.intro cG (And.intro iy (d7))))))))
theorem F57:type_of%F56:=F56
theorem EW (e:GEst) (K:Nat) (hl:e.claims.length<=1000) (ham:∀c∈e.claims,sB K c.amount) (hK0:0<K) (hKb:K<=10000000):aU prog 146 [.agg (aI e)] (.val (.agg (ai (enc (cx e.claims))))):=by
 refine aT func146 rfl (by decide) (N:=23) rfl (by simp) (R:=[.cell 2 32]) rfl fun en k0=>?_
 refine awN ?_;simp only [F57,seval,ai,aI];refine awN ?_;simp only [F57,seval];refine awN ?_;simp only [F57,seval];have hV0:qB (1+0*(K+1)) 0:=ce.mono (by omega);refine ch (dl 3 (ai (enc 0)) (by rfl) (by show (3:Nat)≠0;decide) (by rfl) (fun κ vs h=>by rw [br];exact h)) ?_;simp only [F57,seval];refine aS [1,2,3,4] [1,2,3] ?_;try simp only [ak,F57,seval,ai]
 repeat' first|apply awS|apply awB
 refine aM (fun n st=>∃i0 s nx,i0<=e.claims.length/\n=e.claims.length-i0/\wTl (e.claims.drop i0) s=wTl e.claims 0/\qB (1+i0*(K+1)) s/\st=⟨mkT [(1,.val (.one (.ptr 1 0 0))),(2,.val (.one (.ptr 2 1 0))),(3,.val (.one (.ptr 3 2 0))),(4,one (.int .i64 i0))],mkH [(1,⟨0,36,5,1,aI e⟩),(2,⟨1,32,3,1,[.lit (.bool false),.lit (.string aA),.lit (.string aA)]⟩),(3,⟨2,32,3,1,ai (enc s)⟩)],nx,0⟩) (e.claims.length) ⟨0,0,_,by omega,by omega,by rfl,(by first|omega|assumption|rfl|simp|(simp;omega)),rfl⟩ ?_;rintro n0 st ⟨i0,s,nx0,hk0,rfl,hL0,hV0_1,rfl⟩;by_cases hlt0:i0<e.claims.length
 ·have hI0:(i0:Int)<(e.claims.length:Int):=by omega
  have hat0:=aO dk e.claims i0 hlt0;try rw [Nat.mul_one] at hat0
  rw [List.drop_eq_getElem_cons hlt0] at hL0;have hca:=ham _ (List.getElem_mem hlt0);have hnx:=(hV0_1.add (hca.qB hK0)).mono (n:=1+(i0+1)*(K+1)) (by rw [Nat.succ_mul];omega);generalize e.claims[i0]=c at *
  simp only [wTl] at hL0;refine awN ?_;simp only [F57,seval,ai,hI0,aI];refine awT ?_;refine awK ?_;simp only [F57,seval];have hF:=AZ c.amount K hca (by omega);have hA:=mV s (qOf c.amount) _ K hV0_1 (hca.qB hK0) (by have:=Nat.mul_le_mul (show i0<=1000 by omega) (show K+1<=10000001 by omega);omega) (by omega);simp only [ai] at hA hF;refine awD (scT 0 7 (scq [14,16,18] .nil)) [0,0,0,0,0,0,0,0,0,0] ?_;simp only [F57,seval,hI0,hat0,bj];repeat refine ob ?_
  refine ⟨_,hF,rfl,?_⟩;try simp only [ak,F57,seval]
  refine ⟨_,hA,rfl,?_⟩;try simp only [ak,F57,seval]
  refine awN ?_;simp only [F57,seval];repeat refine ob ?_
  refine ⟨_,aC [1,2,3,4] [1,2,3],e.claims.length-(i0+1),by omega,i0+1,(s+qOf c.amount),?a6_nx,by omega,rfl,?i6_0,?i6_1,?st6⟩;case st6=>(simp only [F57,seval];first|rfl|(simp [aI,hI0,hat0,Nat.add_mul];done))
  case i6_0=>(first|exact hL0|(rw [←hL0];simp only [reduceIte,hI0,hat0];done)|(rw [←hL0];simp [hI0,hat0];done)|(simp [hI0,hat0] at hL0;simpa using hL0)|(rw [←hL0];simp [*];done))
  all_goals (first|omega|assumption|(simp;omega)|(simp_all;done))
 obtain rfl:i0=e.claims.length:=by omega
 have hI0:¬(e.claims.length:Int)<(e.claims.length:Int):=by omega
 rw [List.drop_length] at hL0;simp only [wTl] at hL0;refine awN ?_;simp only [F57,seval,ai,hI0,aI];refine awF ?_;refine awQ ?_;simp only [F57,seval];refine awN ?_;simp only [F57,seval];refine awX ?_;simp only [F57,seval];rw [EU,Rat.zero_add] at hL0;simp [←hL0]
def F58:=And.intro zS (And.intro wj (And.intro DY (And.intro mc (And.intro Ar (And.intro FU (And.intro yI (And.intro nJ (And.intro nK (And.intro cG (And.intro jc (And.intro Hc (And.intro Hf (Hg)))))))))))))
theorem F59:type_of%F58:=F58
theorem EX (e:GEst) (K:Nat) (hl:e.claims.length<=1000) (ham:∀c∈e.claims,sB K c.amount) (hKb:K<=10000000):aU prog 179 [.agg (aI e)] (.val (.one (.sh 1 (aF e.claims).length (ar cRT (aF e.claims))))):=by
 refine aT func179 rfl (by decide) (N:=43) rfl (by simp) (R:=[.tmp 2]) rfl fun en k0=>?_
 refine awN ?_;simp only [F59,seval,aI];refine awN ?_;simp only [F59,seval];refine awN ?_;simp only [F59,seval];refine iB 3 41 280 1 (by decide) (by rfl) ?_;simp only [F59,seval];refine aS [1,3,4] [1,41] ?_;try simp only [ak,F59,seval]
 repeat' first|apply awS|apply awB
 refine aM (fun n st=>∃k sp nx,k<=8/\n=8-k/\st=⟨mkT [(1,.val (.one (.ptr 1 0 0))),(3,.val (.one (.own 41 sp k 1))),(4,one (.int .i64 k))],mkH [(1,⟨0,36,5,1,aI e⟩),(41,⟨sp,280,1,k,ar cRT ((aF e.claims).take k)⟩)],nx,0⟩) (8) ⟨0,_,_,by omega,by omega,rfl⟩ ?_;rintro n0 st ⟨k,sp,nx0,hk,rfl,rfl⟩;by_cases hk8:(k:Int)<=7
 ·skip;refine awN ?_;simp only [F59,seval,hk8];refine awT ?_;refine awK ?_;simp only [F59,seval];refine awN ?_;simp only [F59,seval];refine awN ?_;simp only [F59,seval];refine iB 5 37 283 4 (by decide) (by rfl) ?_;simp only [F59,seval];refine aS [1,3,4,5,6] [1,41,37] ?_;try simp only [ak,F59,seval,aI]
  repeat' first|apply awS|apply awB
  refine aM (fun n st=>∃i0 out s5 nx,i0<=e.claims.length/\n=e.claims.length-i0/\uQ (k:Int) (e.claims.drop i0) i0 out=uQ (k:Int) e.claims 0 []/\out.length<=i0/\st=⟨mkT [(1,.val (.one (.ptr 1 0 0))),(3,.val (.one (.own 41 sp k 1))),(4,one (.int .i64 k)),(5,.val (.one (.own 37 s5 out.length 4))),(6,one (.int .i64 i0))],mkH [(1,⟨0,36,5,1,aI e⟩),(41,⟨sp,280,1,k,ar cRT ((aF e.claims).take k)⟩),(37,⟨s5,283,4,out.length,ar cWP out⟩)],nx,0⟩) (e.claims.length) ⟨0,[],_,_,by omega,by omega,by rfl,(by first|omega|assumption|rfl|simp|(simp;omega)),rfl⟩ ?_;rintro n1 st ⟨i0,out,s5,nx1,hk1,rfl,hL1,hV1_1,rfl⟩;by_cases hlt1:i0<e.claims.length
  ·skip;have hI1:(i0:Int)<(e.claims.length:Int):=by omega
   have hat1:=aO dk e.claims i0 hlt1;try rw [Nat.mul_one] at hat1
   rw [List.drop_eq_getElem_cons hlt1] at hL1;have hca:=ham _ (List.getElem_mem hlt1);have hol:=hV1_1;generalize e.claims[i0]=c at *
   simp only [Cs] at hL1;refine awN ?_;simp only [F59,seval,hI1,aI];refine awT ?_;refine awK ?_;simp only [F59,seval];by_cases hr:c.rank=(k:Int)
   ·skip;refine awN ?_;simp only [F59,seval,hI1,hat1,hr,bj];repeat refine ob ?_
    refine awT ?_;have hF:=AZ c.amount K hca (by omega);simp only [ai] at hF;refine awN ?_;simp only [F59,seval,hI1,hat1,hr,bj];repeat refine ob ?_
    refine ⟨_,hF,(by first|rfl|simp [a8,aK,al,aw,A1.cells,ab bp,ab bN]),?_⟩;try simp only [ak,F59,seval]
    repeat refine ob ?_
    refine awN ?_;simp only [F59,seval];repeat refine ob ?_
    refine ⟨_,aC [1,3,4,5,6] [1,41,37],e.claims.length-(i0+1),by omega,i0+1,(out++[((i0:Int),qOf c.amount)]),?a10_s5,?a10_nx,by omega,rfl,?i10_0,?i10_1,?st10⟩;case st10=>(simp only [F59,seval,aG,cWP,List.length_append,ai];first|rfl|(simp [aI,aG,cWP,List.length_append,List.length_cons,List.length_nil,hk8,hI1,hat1,hr,Nat.add_mul];done))
    case i10_0=>(first|exact hL1|(rw [←hL1];simp only [reduceIte,hr];done)|(rw [←hL1];simp [hk8,hI1,hat1,hr];done)|(simp [hk8,hI1,hat1,hr] at hL1;simpa using hL1)|(rw [←hL1];simp [*];done))
    all_goals (first|omega|assumption|(simp;omega)|(simp_all;done))
   skip;refine awN ?_;simp only [F59,seval,hI1,hat1,hr,bj];repeat refine ob ?_
   refine awF ?_;refine awK ?_;simp only [F59,seval];refine awN ?_;simp only [F59,seval];repeat refine ob ?_
   refine ⟨_,aC [1,3,4,5,6] [1,41,37],e.claims.length-(i0+1),by omega,i0+1,?a13_out,?a13_s5,?a13_nx,by omega,rfl,?i13_0,?i13_1,?st13⟩;case st13=>(simp only [F59,seval];first|rfl|(simp [aI,aG,cWP,List.length_append,List.length_cons,List.length_nil,hk8,hI1,hat1,hr,Nat.add_mul];done))
   case i13_0=>(first|exact hL1|(rw [←hL1];simp only [reduceIte,hr];done)|(rw [←hL1];simp [hk8,hI1,hat1,hr];done)|(simp [hk8,hI1,hat1,hr] at hL1;simpa using hL1)|(rw [←hL1];simp [*];done))
   all_goals (first|omega|assumption|(simp;omega)|(simp_all;done))
  skip;obtain rfl:i0=e.claims.length:=by omega
  have hI1:¬(e.claims.length:Int)<(e.claims.length:Int):=by omega
  rw [List.drop_length] at hL1;simp only [EV] at hL1;refine awN ?_;simp only [F59,seval,hI1,aI];refine awF ?_;refine awQ ?_;simp only [F59,seval];have hlen:out.length<=1000:=by omega
  refine ff (t:=5) (by rfl) (by rfl) (by decide) (by rfl) ?_;simp only [F59,seval];have hout:wRk (k:Int) e.claims 0=out:=by rw [hL1];simp [uQ]
  refine awN ?_;simp only [F59,seval];repeat refine ob ?_
  refine awN ?_;simp only [F59,seval];repeat refine ob ?_
  refine ⟨_,aC [1,3,4] [1,41],8-(k+1),by omega,k+1,?_,?_,by omega,rfl,?_⟩;rotate_left 2
  have hrk8:ar cRT ((aF e.claims).take (k+1))=ar cRT ((aF e.claims).take k)++cRT out:=by rw [GF e.claims k (by omega),hout,aG]
  (simp only [F59,seval,hrk8,cRT];first|rfl|(simp;done))
 skip;refine awN ?_;simp only [F59,seval,hk8];refine awF ?_;refine awQ ?_;simp only [F59,seval];have hk9:k=8:=by omega
 refine ff (t:=3) (by rfl) (by rfl) (by decide) (by rfl) ?_;simp only [F59,seval];refine awN ?_;simp only [F59,seval];refine awX ?_;simp only [F59,seval];rw [hk9,Jo];simp [fv,ab bp]
end Go.Proofs.YtokmkopihhnggaaGreatDoor
