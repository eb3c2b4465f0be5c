/- Debts whose legs are rows of the caller's own: their table, their row, reading them. No program in sight. -/
import Derived.Test.YtcgpghifhehlhaaGreatDoorSplM
import Derived.Test.YtcgpghifhehlhaaGreatDoorAbZM
set_option linter.unusedVariables false
set_option maxHeartbeats 4000000
set_option maxRecDepth 100000
set_option linter.unusedSimpArgs false
set_option linter.unusedSectionVars false
namespace Go.Proofs.YtcgpghifhehlhaaGreatDoor
open Go Go.RowKit Go.Proofs.Tryz
def mi (E:TypeId) (ds:List (GDebt×Nat)):Hp:=fun nm=>
 if 1000<=nm/\nm%1000=104 then (ds[nm/1000-1]?).map fun p=>⟨p.2,E,2,p.1.legs.length,ar bp p.1.legs⟩ else none
theorem xG {E:TypeId} {ds:List (GDebt×Nat)} {i:Nat} {p:GDebt×Nat} (h:ds[i]? =some p):mi E ds (1000*(i+1)+104)=some ⟨p.2,E,2,p.1.legs.length,ar bp p.1.legs⟩:=by
 have h1:(1000*(i+1)+104)/1000-1=i:=by omega
 unfold mi;rw [if_pos (by omega),h1,h];rfl
theorem qY {E:TypeId} {ds:List (GDebt×Nat)} {nm:Nat} (h:nm<1000∨nm%1000≠104):mi E ds nm=none:=if_neg (by omega)
theorem mW {E:TypeId} {ds:List (GDebt×Nat)} {nm:Nat} {B:Blk} (h:mi E ds nm=some B):∃i p,nm=1000*(i+1)+104/\ds[i]? =some p/\B=⟨p.2,E,2,p.1.legs.length,ar bp p.1.legs⟩:=by
 unfold mi at h;split at h
 ·rename_i h1;obtain ⟨p,h2,rfl⟩:=Option.map_eq_some_iff.1 h;exact ⟨nm/1000-1,p,by omega,h2,rfl⟩
 cases h
def cF (E E2:TypeId) (ps:List (GEst×Nat)) (ds:List (GDebt×Nat)):Hp:=orT 103 E ps (mi E2 ds)
theorem aZ {E E2:TypeId} {ps:List (GEst×Nat)} {ds:List (GDebt×Nat)} {nm:Nat} {B:Blk} (h:cF E E2 ps ds nm=some B):
  (∃i p,nm=1000*(i+1)+103/\ps[i]? =some p/\B=⟨p.2,E,5,p.1.claims.length,ar aA p.1.claims⟩)∨(∃i p,nm=1000*(i+1)+104/\ds[i]? =some p/\B=⟨p.2,E2,2,p.1.legs.length,ar bp p.1.legs⟩):=by
 rcases vT h with h1|h1
 ·exact .inl h1
 exact .inr (mW h1)
theorem lU {E E2:TypeId} {ps:List (GEst×Nat)} {ds:List (GDebt×Nat)} {x:Nat} {B:Blk} (h:cF E E2 ps ds x=some B):x<500∨x%1000=103∨x%1000=104:=by
 rcases aZ h with ⟨i,r,rfl,_,_⟩|⟨i,r,rfl,_,_⟩
 ·right;left;omega
 right;right;omega
theorem vU {E E2:TypeId} {ps:List (GEst×Nat)} {ds:List (GDebt×Nat)} {nm:Nat} (h:nm<1000):cF E E2 ps ds nm=none:=by
 unfold cF;rw [xF h,qY (.inl h)]
theorem iE {E E2:TypeId} {ps:List (GEst×Nat)} {ds:List (GDebt×Nat)} {i:Nat} {p:GEst×Nat} (h:ps[i]? =some p):cF E E2 ps ds (1000*(i+1)+103)=some ⟨p.2,E,5,p.1.claims.length,ar aA p.1.claims⟩:=yZ (by decide) h
theorem gH {E E2:TypeId} {ps:List (GEst×Nat)} {ds:List (GDebt×Nat)} {i:Nat} {p:GDebt×Nat} (h:ds[i]? =some p):cF E E2 ps ds (1000*(i+1)+104)=some ⟨p.2,E2,2,p.1.legs.length,ar bp p.1.legs⟩:=by
 unfold cF orT;have h1:tbl 103 E ps (1000*(i+1)+104)=none:=if_neg (by omega);rw [h1];exact xG h
def j1 (i:Nat) (p:GDebt×Nat):C:= .own (1000*(i+1)+104) p.2 p.1.legs.length 2
def dRw:List (GDebt×Nat)->Nat->List C
 |[],_=>[]
 |p::l,i=>[.lit (.bool p.1.whole.neg),.lit (.string p.1.whole.num),.lit (.string p.1.whole.den),j1 i p]++dRw l (i+1)
theorem dy:∀(l:List (GDebt×Nat)) (i:Nat),(dRw l i).length=l.length*4
 |[],_=>rfl
 |p::l,i=>by simp only [dRw,List.length_append,List.length_cons,List.length_nil,dy l];omega
theorem jg:∀(l m:List (GDebt×Nat)) (i:Nat),dRw (l++m) i=dRw l i++dRw m (i+l.length)
 |[],m,i=>by simp [dRw]
 |p::l,m,i=>by
  simp only [List.cons_append,dRw,jg l m (i+1),List.length_cons,List.append_assoc];rw [Nat.add_assoc,Nat.add_comm 1]
theorem gp (l:List (GDebt×Nat)) (q:GDebt×Nat) (x:C):(dRw l 0++[.lit (.bool q.1.whole.neg),.lit (.string q.1.whole.num),.lit (.string q.1.whole.den),x]).set (l.length*4+3) (.own (1000*(l.length+1)+104) q.2 q.1.legs.length 2)=dRw (l++[q]) 0:=by
 rw [jg,List.set_append_right _ _ (by rw [dy];omega),dy,Nat.add_sub_cancel_left,Nat.zero_add];rfl
theorem gr (l:List (GDebt×Nat)) (a b c x:C):(dRw l 0++[a,b,c,x])[l.length*4+3]? =some x:=by
 rw [List.getElem?_append_right (by rw [dy];omega),dy,Nat.add_sub_cancel_left];rfl
theorem y5 (l:List (GDebt×Nat)) (j:Nat) (p:GDebt×Nat) (h:l[j]? =some p):
  (dRw l 0).drop (j*4)=[.lit (.bool p.1.whole.neg),.lit (.string p.1.whole.num),.lit (.string p.1.whole.den),j1 j p]++dRw (l.drop (j+1)) (j+1):=by
 have hlt:j<l.length:=(List.getElem?_eq_some_iff.1 h).1;have hp:l[j]=p:=(List.getElem?_eq_some_iff.1 h).2;have ht:(l.take j).length=j:=by rw [List.length_take];omega
 have h1:dRw l 0=dRw (l.take j) 0++([.lit (.bool p.1.whole.neg),.lit (.string p.1.whole.num),.lit (.string p.1.whole.den),j1 j p]++dRw (l.drop (j+1)) (j+1)):=by
  conv=>lhs;rw [←List.take_append_drop j l,jg]
  rw [List.drop_eq_getElem_cons hlt,hp,ht,Nat.zero_add];rfl
 have hl:(dRw (l.take j) 0).length=j*4:=by rw [dy,ht]
 rw [h1,←hl,List.drop_left]
theorem vV (l:List (GDebt×Nat)) (j:Nat) (p:GDebt×Nat) (h:l[j]? =some p):(dRw l 0)[j*4+3]? =some (j1 j p):=by
 rw [←List.head?_drop,←List.drop_drop,y5 l j p h];rfl
section
variable {e : En} {H : Hp} {nx : Nat} {σ : Nat → Value} {w : World}
theorem pP (hW:RW e H nx σ w) (E:TypeId):∀(ds:List (GDebt×Nat)) (i:Nat),(∀j p,ds[j]? =some p->H (1000*(i+j+1)+104)=some ⟨p.2,E,2,p.1.legs.length,ar bp p.1.legs⟩)->∀xs,denVs (kx e H nx σ w) xs (dRw ds i)->denVs (eP w) xs (ar cn (ds.map (·.1)))
 |[],_,_,xs,h=>by
  cases xs with
  |nil=>trivial
  |cons v vs=>exact h.elim
 |p::ds,i,ht,xs,h=>by
  simp only [dRw,List.cons_append,List.nil_append] at h;obtain ⟨v1,vs1,rfl,d1,h⟩:=aW h;obtain ⟨v2,vs2,rfl,d2,h⟩:=aW h;obtain ⟨v3,vs3,rfl,d3,h⟩:=aW h;obtain ⟨v4,vs4,rfl,d4,h⟩:=aW h;have ih:=pP hW E ds (i+1) (fun j q hq=>by
   have:=ht (j+1) q (by simpa using hq);rwa [show i+(j+1)+1=i+1+j+1 by omega] at this) vs4 h
  rw [List.map_cons,aY];have h0:=ht 0 p rfl;rw [Nat.add_zero] at h0;exact ⟨d1,d2,d3,go hW d4 h0 rfl (by show (2:Nat)≠0;decide) (fun ys hy=>fw lT (ab mN _) hy),ih⟩
end
def aC (o:Option (Nat×Nat)) (i:Nat) (p:GEst×Nat):C:=match o with
 |some q=>if i=q.1 then .own 77 q.2 p.1.agrs.length 1 else .sh 1 p.1.agrs.length (ar aU p.1.agrs)
 |none=> .sh 1 p.1.agrs.length (ar aU p.1.agrs)
def bQ (o:Option (Nat×Nat)):List (GEst×Nat)->Nat->List C
 |[],_=>[]
 |p::l,i=>[.lit (.bool p.1.cash.neg),.lit (.string p.1.cash.num),.lit (.string p.1.cash.den),aR 103 i p,aC o i p]++bQ o l (i+1)
theorem bq:∀(l:List (GEst×Nat)) (i:Nat),bQ none l i=eRw (aR 103) l i
 |[],_=>rfl
 |p::l,i=>by simp only [bQ,eRw,aC,bq l]
theorem bL (o:Option (Nat×Nat)):∀(l:List (GEst×Nat)) (i:Nat),(bQ o l i).length=l.length*5
 |[],_=>rfl
 |p::l,i=>by simp only [bQ,List.length_append,List.length_cons,List.length_nil,bL o l];omega
theorem kA (o:Option (Nat×Nat)):∀(l:List (GEst×Nat)) (i j:Nat) (p:GEst×Nat),l[j]? =some p->
  (bQ o l i).drop (j*5)=[.lit (.bool p.1.cash.neg),.lit (.string p.1.cash.num),.lit (.string p.1.cash.den),aR 103 (i+j) p,aC o (i+j) p]++bQ o (l.drop (j+1)) (i+j+1)
 |[],_,_,_,h=>by simp at h
 |q::l,i,0,p,h=>by simp at h;subst h;rfl
 |q::l,i,j+1,p,h=>by
  have h1:=kA o l (i+1) j p (by simpa using h);simp only [bQ];rw [show (j+1)*5=5+j*5 by omega,←List.drop_drop];show (bQ o l (i+1)).drop (j*5)=_;rw [h1,show i+1+j=i+(j+1) by omega];rfl
theorem gt (o:Option (Nat×Nat)) (l:List (GEst×Nat)) (j:Nat) (p:GEst×Nat) (h:l[j]? =some p):(bQ o l 0)[j*5+3]? =some (aR 103 j p)/\(bQ o l 0)[j*5+4]? =some (aC o j p):=by
 have h1:=kA o l 0 j p h;rw [Nat.zero_add] at h1;constructor
 ·rw [←List.head?_drop,←List.drop_drop,h1];rfl
 rw [←List.head?_drop,←List.drop_drop,h1];rfl
theorem ik (o o':Option (Nat×Nat)):∀(l:List (GEst×Nat)) (i j:Nat) (p p':GEst×Nat),l[j]? =some p->p'.1.cash=p.1.cash->aR 103 (i+j) p'=aR 103 (i+j) p->(∀k q,k≠i+j->l[k-i]? =some q->i<=k->aC o k q=aC o' k q)->
  (bQ o l i).set (j*5+4) (aC o' (i+j) p')=bQ o' (l.set j p') i
 |[],_,_,_,_,h,_,_,_=>by simp at h
 |q::l,i,0,p,p',h,hc,hf,ho=>by
  simp at h;subst h
  have hl:∀(m:List (GEst×Nat)) (i':Nat),(∀k q,m[k-i']? =some q->i'<=k->aC o k q=aC o' k q)->bQ o m i'=bQ o' m i':=by
   intro m;induction m with
   |nil=>intro i' _;rfl
   |cons r m ih=>
    intro i' hm;simp only [bQ];rw [hm i' r (by simp) (Nat.le_refl _),ih (i'+1) fun k q hk hle=>hm k q (by
     rw [show k-i'=(k-(i'+1))+1 by omega];simpa using hk) (by omega)]
  simp only [bQ,List.set_cons_zero,hc];rw [Nat.add_zero] at hf;rw [hl l (i+1) fun k q hk hle=>ho k q (by omega) (by rw [show k-i=(k-(i+1))+1 by omega];simpa using hk) (by omega)];simp [hf]
 |q::l,i,j+1,p,p',h,hc,hf,ho=>by
  have h1:=ik o o' l (i+1) j p p' (by simpa using h) hc (by rw [show i+1+j=i+(j+1) by omega];exact hf) fun k r hk hr hle=>ho k r (by omega) (by rw [show k-i=(k-(i+1))+1 by omega];simpa using hr) (by omega)
  simp only [bQ,List.set_cons_succ];rw [←ho i q (by omega) (by simp) (Nat.le_refl _),←h1,show i+1+j=i+(j+1) by omega];rw [show (j+1)*5+4=5+(j*5+4) by omega,List.set_append_right _ _ (by simp)];simp
section
variable {e : En} {H : Hp} {nx : Nat} {σ : Nat → Value} {w : World}
def h77 (H:Hp) (o:Option (Nat×Nat)) (E:TypeId) (ps:List (GEst×Nat)):Prop:=∀q p,o=some q->ps[q.1]? =some p->H 77=some ⟨q.2,E,1,p.1.agrs.length,ar aU p.1.agrs⟩
theorem mX (hW:RW e H nx σ w) (o:Option (Nat×Nat)) (E EA:TypeId):∀(ps:List (GEst×Nat)) (i:Nat),(∀j p,ps[j]? =some p->H (1000*(i+j+1)+103)=some ⟨p.2,E,5,p.1.claims.length,ar aA p.1.claims⟩)->(∀q p,o=some q->i<=q.1->ps[q.1-i]? =some p->H 77=some ⟨q.2,EA,1,p.1.agrs.length,ar aU p.1.agrs⟩)->
  ∀xs,denVs (kx e H nx σ w) xs (bQ o ps i)->denVs (eP w) xs (ar bh (ps.map (·.1)))
 |[],_,_,_,xs,h=>by
  cases xs with
  |nil=>trivial
  |cons v vs=>exact h.elim
 |p::ps,i,ht,ho,xs,h=>by
  simp only [bQ,List.cons_append,List.nil_append] at h;obtain ⟨v1,vs1,rfl,d1,h⟩:=aW h;obtain ⟨v2,vs2,rfl,d2,h⟩:=aW h;obtain ⟨v3,vs3,rfl,d3,h⟩:=aW h;obtain ⟨v4,vs4,rfl,d4,h⟩:=aW h;obtain ⟨v5,vs5,rfl,d5,h⟩:=aW h;have ih:=mX hW o E EA ps (i+1) (fun j q hq=>by
   have:=ht (j+1) q (by simpa using hq);rwa [show i+(j+1)+1=i+1+j+1 by omega] at this) (fun q r hq hle hr=>ho q r hq (by omega) (by rw [show q.1-i=(q.1-(i+1))+1 by omega];simpa using hr)) vs5 h
  rw [List.map_cons,aY];have h0:=ht 0 p rfl;rw [Nat.add_zero] at h0;refine ⟨d1,d2,d3,go hW d4 h0 rfl (by show (5:Nat)≠0;decide) (fun ys hy=>fw lT (ab bA _) hy),?_,ih⟩;cases o with
  |none=>exact cP lT (by simp [az,ab bg]) d5
  |some q=>
   simp only [aC] at d5;split at d5
   ·rename_i hi;have h7:=ho q p rfl (by omega) (by rw [hi,Nat.sub_self];rfl);exact go hW d5 h7 rfl (by show (1:Nat)≠0;decide) (fun ys hy=>fw lT (ab bg _) hy)
   exact cP lT (by simp [az,ab bg]) d5
theorem j2 (hW:RW e H nx σ w) {o:Option (Nat×Nat)} {E E2 E3 E4 EA:TypeId} {er dr s s' n m:Nat} {ps:List (GEst×Nat)} {ds:List (GDebt×Nat)} (h49:H er=some ⟨s,E,5,n,bQ o ps 0⟩) (hn:n=ps.length) (hdr:H dr=some ⟨s',E3,4,m,dRw ds 0⟩) (hm:m=ds.length)
  (ht:∀j p,ps[j]? =some p->H (1000*(j+1)+103)=some ⟨p.2,E2,5,p.1.claims.length,ar aA p.1.claims⟩) (hd':∀j p,ds[j]? =some p->H (1000*(j+1)+104)=some ⟨p.2,E4,2,p.1.legs.length,ar bp p.1.legs⟩) (h7:h77 H o EA ps)
  {vs:List Value} (hd:denVs (kx e H nx σ w) vs [.own er s n 5,.own dr s' m 4]):denVs (eP w) vs (au ⟨ps.map (·.1),ds.map (·.1)⟩):=by
 obtain ⟨v1,vs1,rfl,d1,hd⟩:=aW hd;obtain ⟨v2,vs2,rfl,d2,hd⟩:=aW hd;have h1:=go hW d1 h49 rfl (by show (5:Nat)≠0;decide) (fun xs hx=>mX hW o E2 EA ps 0 (fun j p hp=>by rw [Nat.zero_add];exact ht j p hp) (fun q p hq _ hp=>h7 q p hq (by simpa using hp)) xs hx);have h2:=go hW d2 hdr rfl (by show (4:Nat)≠0;decide) (fun xs hx=>pP hW E4 ds 0 (fun j p hp=>by rw [Nat.zero_add];exact hd' j p hp) xs hx);rw [hn,←List.length_map (f:=fun p:GEst×Nat=>p.1)] at h1;rw [hm,←List.length_map (f:=fun p:GDebt×Nat=>p.1)] at h2;refine ⟨h1,h2,?_⟩;cases vs2 with
 |nil=>trivial
 |cons v vs=>exact hd.elim
end
def agG (gi:Nat) (ps:List (GEst×Nat)):List cw:=match ps[gi]? with
 |some p=>p.1.agrs
 |none=>[]
theorem jh {gi:Nat} {ps:List (GEst×Nat)} {p:GEst×Nat} (h:ps[gi]? =some p):agG gi ps=p.1.agrs:=by unfold agG;rw [h]
theorem so {gi j:Nat} {ps:List (GEst×Nat)} {p:GEst×Nat} (h:gi≠j):agG gi (ps.set j p)=agG gi ps:=by unfold agG;rw [List.getElem?_set_ne (fun e=>h e.symm)]
theorem vW (E E2:TypeId) (ps:List (GEst×Nat)):cF E E2 ps []=tbl 103 E ps:=by
 funext nm;unfold cF orT;cases h:tbl 103 E ps nm with
 |some B=>rfl
 |none=>
  show mi E2 [] nm=none;unfold mi;split<;>simp
theorem lV (f:Nat->GEst×Nat->C):∀(l:List (GEst×Nat)) (i j:Nat),j<l.length->(cg f l i)[j*5+4]? =some (.lit (.slice none 0 0))
 |[],_,_,h=>by simp at h
 |p::l,i,0,_=>by simp [cg]
 |p::l,i,j+1,h=>by
  have:=lV f l (i+1) j (by simpa using h);simp only [cg];rw [show (j+1)*5+4=(j*5+4)+5 by omega,List.getElem?_append_right (by simp)];simpa using this
theorem lW (o:Option (Nat×Nat)):∀(ps:List (GEst×Nat)) (i:Nat),(∀p∈ps,p.1.agrs=[])->(∀k p,i<=k->aC o k p= .sh 1 p.1.agrs.length (ar aU p.1.agrs))->∀(κ:Kx) (vs:List Value),denVs κ vs (cg (aR 103) ps i)->denVs κ vs (bQ o ps i)
 |[],_,_,_,κ,vs,h=>h
 |p::ps,i,hp,ho,κ,vs,h=>by
  have ha:=hp p (by simp);simp only [cg,List.cons_append,List.nil_append] at h;obtain ⟨v1,vs1,rfl,d1,h⟩:=aW h;obtain ⟨v2,vs2,rfl,d2,h⟩:=aW h;obtain ⟨v3,vs3,rfl,d3,h⟩:=aW h;obtain ⟨v4,vs4,rfl,d4,h⟩:=aW h;obtain ⟨v5,vs5,rfl,d5,h⟩:=aW h;have ih:=lW o ps (i+1) (fun q hq=>hp q (by simp [hq])) (fun k q hk=>ho k q (by omega)) κ vs5 h;simp only [bQ,List.cons_append,List.nil_append,ho i p (Nat.le_refl _),ha];exact ⟨d1,d2,d3,d4,jY 1 d5,ih⟩
theorem mY (gi t:Nat):∀(ps:List (GEst×Nat)) (i j:Nat),i+j=gi->(∀p∈ps,p.1.agrs=[])->∀(κ:Kx) (vs:List Value),denVs κ vs ((cg (aR 103) ps i).set (j*5+4) (.own 77 t 0 1))->denVs κ vs (bQ (some (gi,t)) ps i)
 |[],_,_,_,_,κ,vs,h=>by simpa [cg,bQ] using h
 |p::ps,i,0,hj,hp,κ,vs,h=>by
  have ha:=hp p (by simp);have hgi:i=gi:=by omega
  have e1:(cg (aR 103) (p::ps) i).set (0*5+4) (.own 77 t 0 1)=[.lit (.bool p.1.cash.neg),.lit (.string p.1.cash.num),.lit (.string p.1.cash.den),aR 103 i p,.own 77 t 0 1]++cg (aR 103) ps (i+1):=by simp [cg]
  rw [e1] at h;simp only [List.cons_append,List.nil_append] at h;obtain ⟨v1,vs1,rfl,d1,h⟩:=aW h;obtain ⟨v2,vs2,rfl,d2,h⟩:=aW h;obtain ⟨v3,vs3,rfl,d3,h⟩:=aW h;obtain ⟨v4,vs4,rfl,d4,h⟩:=aW h;obtain ⟨v5,vs5,rfl,d5,h⟩:=aW h;have ih:=lW (some (gi,t)) ps (i+1) (fun q hq=>hp q (by simp [hq])) (fun k q hk=>by simp only [aC];rw [if_neg (by omega)]) κ vs5 h;simp only [bQ,List.cons_append,List.nil_append,aC,if_pos hgi,ha];exact ⟨d1,d2,d3,d4,d5,ih⟩
 |p::ps,i,j+1,hj,hp,κ,vs,h=>by
  have ha:=hp p (by simp);have e1:(cg (aR 103) (p::ps) i).set ((j+1)*5+4) (.own 77 t 0 1)=[.lit (.bool p.1.cash.neg),.lit (.string p.1.cash.num),.lit (.string p.1.cash.den),aR 103 i p,.lit (.slice none 0 0)]++(cg (aR 103) ps (i+1)).set (j*5+4) (.own 77 t 0 1):=by
   simp only [cg];rw [show (j+1)*5+4=(j*5+4)+5 by omega,List.set_append_right _ _ (by simp)];simp
  rw [e1] at h;simp only [List.cons_append,List.nil_append] at h;obtain ⟨v1,vs1,rfl,d1,h⟩:=aW h;obtain ⟨v2,vs2,rfl,d2,h⟩:=aW h;obtain ⟨v3,vs3,rfl,d3,h⟩:=aW h;obtain ⟨v4,vs4,rfl,d4,h⟩:=aW h;obtain ⟨v5,vs5,rfl,d5,h⟩:=aW h;have ih:=mY gi t ps (i+1) j (by omega) (fun q hq=>hp q (by simp [hq])) κ vs5 h;simp only [bQ,List.cons_append,List.nil_append,aC];rw [if_neg (by omega),ha];exact ⟨d1,d2,d3,d4,jY 1 d5,ih⟩
theorem pQ (gi t:Nat) (ps:List (GEst×Nat)) (p:GEst×Nat) (h:ps[gi]? =some p):(bQ (some (gi,t)) ps 0).set (gi*5+4) (.sh 1 p.1.agrs.length (ar aU p.1.agrs))=bQ none ps 0:=by
 have h1:=ik (some (gi,t)) none ps 0 gi p p h rfl rfl fun k q hk hq _=>by simp only [aC];rw [if_neg (by omega)]
 have h2:ps.set gi p=ps:=by
  obtain ⟨h3,h4⟩:=List.getElem?_eq_some_iff.1 h;rw [←h4];exact List.set_getElem_self h3
 rw [h2] at h1;exact h1
theorem pR (gi t:Nat) (ps:List (GEst×Nat)) (p:GEst×Nat) (a:List cw) (h:ps[gi]? =some p):(bQ none ps 0).set (gi*5+4) (.own 77 t a.length 1)=bQ (some (gi,t)) (ps.set gi (⟨p.1.cash,p.1.claims,a⟩,p.2)) 0:=by
 have h1:=ik none (some (gi,t)) ps 0 gi p (⟨p.1.cash,p.1.claims,a⟩,p.2) h rfl rfl fun k q hk hq _=>by simp only [aC];rw [if_neg (by omega)]
 simp only [aC] at h1;rw [if_pos (by omega)] at h1;exact h1
theorem sr (gi t j:Nat) (ps:List (GEst×Nat)) (p:GEst×Nat) (a:List cw) (h:ps[j]? =some p) (hj:j≠gi):(bQ (some (gi,t)) ps 0).set (j*5+4) (.sh 1 a.length (ar aU a))=bQ (some (gi,t)) (ps.set j (⟨p.1.cash,p.1.claims,a⟩,p.2)) 0:=by
 have h1:=ik (some (gi,t)) (some (gi,t)) ps 0 j p (⟨p.1.cash,p.1.claims,a⟩,p.2) h rfl rfl fun k q hk hq _=>rfl
 simp only [aC] at h1;rw [if_neg (by omega)] at h1;exact h1
theorem km {H:Hp} {f:Hp} (hn:∀x B,H x=some B->x<500∨x%1000=103∨x%1000=104) (hf:∀x,(x<500∨x%1000=103∨x%1000=104)->f x=H x) (l:List Nat):∀x B,H x=some B->fI l x=true∨f x=some B:=fun x B hB=> .inr (by rw [hf x (hn x B hB)];exact hB)
theorem zV (o:Option (Nat×Nat)) (ps:List (GEst×Nat)) (ds:List (GDebt×Nat)) (p:N3) (H:Hp) (ny s9 s8:Nat) (hn:∀x B,H x=some B->x<500∨x%1000=103∨x%1000=104) (h49:H 49=some ⟨s9,36,5,ps.length,bQ o ps 0⟩) (h51:H 51=some ⟨s8,42,4,ds.length,dRw ds 0⟩) (htab:∀j q,ps[j]? =some q->H (1000*(j+1)+103)=some ⟨q.2,38,5,q.1.claims.length,ar aA q.1.claims⟩) (htbd:∀j q,ds[j]? =some q->H (1000*(j+1)+104)=some ⟨q.2,44,2,q.1.legs.length,ar bp q.1.legs⟩)
  (h7:h77 H o 50 ps) (hp:p.a<65536/\p.b<65536/\p.c<65536) (hge:ps.length<=1000) (hg:∀q∈ps,q.1.claims.length<=1000) (hnd:ds.length<=1000000000000) (hdl:∀d∈ds.map (·.1),d.legs.length<=1000000000000):
  dk prog 30 [.agg [.own 49 s9 ps.length 5,.own 51 s8 ds.length 4],.agg (cN3 p)] H ny (fun res H' _=>∃s t,res= .val (.one (.own 620 s (ds.length+1) 4))/\H'=bW H [(620,⟨s,42,4,ds.length+1,dRw (ds++[(owN ⟨ps.map (·.1),ds.map (·.1)⟩ p,t)]) 0⟩),(1000*(ds.length+1)+104,⟨t,44,2,(owN ⟨ps.map (·.1),ds.map (·.1)⟩ p).legs.length,ar bp (owN ⟨ps.map (·.1),ds.map (·.1)⟩ p).legs⟩)]):=by
 refine fm 500 func30 rfl (by decide) (N:=121) rfl (by simp) (Rl:=[.tmp 4]) rfl fun en k0=>?_
 refine awN ?_;simp only [F7,zT,seval,cN3];repeat refine ob ?_
 refine awN ?_;simp only [F7,zT,seval];repeat refine ob ?_
 refine ⟨_,(fL p.c hp.2.2),rfl,?_⟩;try simp only [aq,F7,zT,seval,cS]
 repeat refine ob ?_
 refine awN ?_;simp only [F7,zT,seval];repeat refine ob ?_
 refine awN ?_;simp only [F7,zT,seval];repeat refine ob ?_
 refine awN ?_;simp only [F7,zT,seval,h49];repeat refine ob ?_
 refine dE 505 3 578 _ 44 2 (by decide) (by rfl) (by decide) (by simp) (by rfl) ?_;refine aE H [2,3,4,5,6,7,19,20,21] [502,503,505,578] (km hn (fun x h=>by (try simp only [aj]);repeat rw [if_neg (by omega)]) _) ?_;try simp only [aq,F7,zT,seval]
 repeat' first|apply awS|apply awB
 refine aB (fun n st=>∃i0 s s1 nx,i0<=ps.length/\n=ps.length-i0/\owE (ds.map (·.1)) p ((ps.drop i0).map (·.1)) i0 s=owE (ds.map (·.1)) p (ps.map (·.1)) 0 ⟨0,0,[]⟩/\s.k<=i0*1000/\s.l.length<=4/\st=⟨mkT [(2,.val (.one (.ptr 502 ny 0))),(3,.val (.one (.ptr 503 (ny+1) 0))),(4,.val (.one (.lit (.slice none 0 0)))),(5,.val (.one (.ptr 505 (ny+2) 0))),(6,one (.int .i64 s.k)),(7,one (.int .i64 s.h)),(19,.val (.one (.own 49 s9 ps.length 5))),(20,one (.int .i64 ps.length)),(21,one (.int .i64 i0))],bW H [(502,⟨ny,28,2,1,[.own 49 s9 ps.length 5,.own 51 s8 ds.length 4]⟩),(503,⟨ny+1,93,3,1,cN3 p⟩),(505,⟨ny+2,42,4,1,[.lit (.bool (enc (cY p.c)).neg),.lit (.string (enc (cY p.c)).num),.lit (.string (enc (cY p.c)).den),.own 578 s1 (s.l).length 2]⟩),(578,⟨s1,44,2,(s.l).length,ar bp (s.l)⟩)],nx,500⟩) (ps.length) ⟨0,⟨0,0,[]⟩,_,_,by omega,by omega,by rfl,(by first|omega|assumption|rfl|simp|(simp;omega)),(by first|omega|assumption|rfl|simp|(simp;omega)),rfl⟩ ?_;rintro n0 st ⟨i0,s,s1,nx0,hk0,rfl,hL0,hV0_1,hV0_2,rfl⟩;by_cases hlt0:i0<ps.length
 ·have hI0:(i0:Int)<(ps.length:Int):=by omega
  rw [List.drop_eq_getElem_cons hlt0] at hL0;have hec:=hg _ (List.getElem_mem hlt0);have hps:ps[i0]? =some ps[i0]:=List.getElem?_eq_getElem hlt0;have htb:=htab i0 _ hps;have hget:=(gt o ps i0 _ hps).1;have hfo:aR 103 i0 ps[i0]= .own (1000*(i0+1)+103) ps[i0].2 ps[i0].1.claims.length 5:=rfl;rw [hfo] at hget;have hrl:=bL o ps 0;obtain ⟨b9,hb9⟩:∃b,b=1000*(i0+1)+103:=⟨_,rfl⟩;rw [←hb9] at hget htb;have F9:∀c,c%1000≠103->((b9=c)=False):=fun c hc=>by simp;omega
  generalize ps[i0]=q at *
  simp only [List.map_cons,owE] at hL0;refine awN ?_;simp only [F7,zT,seval,cN3,hI0];repeat refine ob ?_
  refine awT ?_;refine awK ?_;simp only [F7,zT,seval];refine awN ?_;simp only [F7,zT,seval];repeat refine ob ?_
  refine awN ?_;simp only [F7,zT,seval,h49,hI0,hget,F9,htb];repeat refine ob ?_
  refine aE H [2,3,4,5,6,7,8,19,20,21,29,30,31] [502,503,505,578] (km hn (fun x h=>by (try simp only [aj]);repeat rw [if_neg (by omega)]) _) ?_;try simp only [aq,F7,zT,seval]
  repeat' first|apply awS|apply awB
  refine aB (fun n st=>∃c0 t s2 nx,c0<=q.1.claims.length/\n=q.1.claims.length-c0/\owC (ds.map (·.1)) p i0 (q.1.claims.drop c0) c0 t=owC (ds.map (·.1)) p i0 q.1.claims 0 s/\t.k<=i0*1000+c0/\t.l.length<=4/\st=⟨mkT [(2,.val (.one (.ptr 502 ny 0))),(3,.val (.one (.ptr 503 (ny+1) 0))),(4,.val (.one (.lit (.slice none 0 0)))),(5,.val (.one (.ptr 505 (ny+2) 0))),(6,one (.int .i64 t.k)),(7,one (.int .i64 t.h)),(8,one (.int .i64 i0)),(19,.val (.one (.own 49 s9 ps.length 5))),(20,one (.int .i64 ps.length)),(21,one (.int .i64 i0)),(29,.val (.one (.own b9 q.2 q.1.claims.length 5))),(30,one (.int .i64 q.1.claims.length)),(31,one (.int .i64 c0))],bW H [(502,⟨ny,28,2,1,[.own 49 s9 ps.length 5,.own 51 s8 ds.length 4]⟩),(503,⟨ny+1,93,3,1,cN3 p⟩),(505,⟨ny+2,42,4,1,[.lit (.bool (enc (cY p.c)).neg),.lit (.string (enc (cY p.c)).num),.lit (.string (enc (cY p.c)).den),.own 578 s2 (t.l).length 2]⟩),(578,⟨s2,44,2,(t.l).length,ar bp (t.l)⟩)],nx,500⟩) (q.1.claims.length) ⟨0,s,_,_,by omega,by omega,by rfl,(by first|omega|assumption|rfl|simp|(simp;omega)),(by first|omega|assumption|rfl|simp|(simp;omega)),rfl⟩ ?_;rintro n1 st ⟨c0,t,s2,nx1,hk1,rfl,hL1,hV1_1,hV1_2,rfl⟩;by_cases hlt1:c0<q.1.claims.length
  ·have hI1:(c0:Int)<(q.1.claims.length:Int):=by omega
   have hat1:=aO bX q.1.claims c0 hlt1;try rw [Nat.mul_one] at hat1
   rw [List.drop_eq_getElem_cons hlt1] at hL1;have aL:=xV (ds.map (·.1)) p i0 c0 q.1.claims[c0] t;have hfc:=aS bX q.1.claims;generalize q.1.claims[c0]=y at *
   simp only [owC] at hL1;refine awN ?_;simp only [F7,zT,seval,cN3,hI1];repeat refine ob ?_
   refine awT ?_;refine awK ?_;simp only [F7,zT,seval];refine awN ?_;simp only [F7,zT,seval,hI1,hat1,aA,F9,htb];repeat refine ob ?_
   by_cases ht:tkD (i0:Int) (c0:Int) (ds.map (·.1))=true
   ·refine awR [39] [0,0,0,0,0,82,82,82,82,0] ?_;simp only [F7,zT,seval];repeat refine ob ?_
    refine ⟨_,fX (nQ ⟨ps.map (·.1),ds.map (·.1)⟩ i0 c0 (by simpa using hnd) hdl) rfl (fun e σ w vs hW hd=>?_),?_⟩
    ·obtain ⟨v1,vs1,rfl,d1,hd1⟩:=cC hd;obtain ⟨v2,vs2,rfl,d2,hd2⟩:=cC hd1;obtain ⟨v3,vs3,rfl,d3,hd3⟩:=cC hd2;obtain ⟨us,rfl,du⟩:=d1;exact ⟨⟨us,rfl,j2 (o:=o) (EA:=50) (er:=49) (dr:=51) (s:=s9) (n:=ps.length) (m:=ds.length) (ps:=ps) (ds:=ds) hW h49 rfl h51 rfl (fun j r hj=>by (try simp only [aj]);(repeat rw [if_neg (by omega)]);exact htab j r hj) (fun j r hj=>by (try simp only [aj]);(repeat rw [if_neg (by omega)]);exact htbd j r hj) (fun q r hq hr=>by (try simp only [aj]);(repeat rw [if_neg (by omega)]);exact h7 q r hq hr) du⟩,d2,d3,jf hd3⟩
    rintro res H' nx' ⟨rfl,rfl,rfl⟩;try simp only [aq,F7,zT,seval,ht]
    repeat refine ob ?_
    refine awT ?_;refine awQ ?_;simp only [F7,zT,seval];refine awN ?_;simp only [F7,zT,seval];repeat refine ob ?_
    repeat refine ob ?_
    refine ⟨_,bE H [2,3,4,5,6,7,8,19,20,21,29,30,31] [502,503,505,578] (km hn (fun x h=>by (try simp only [aj]);repeat rw [if_neg (by omega)]) _),q.1.claims.length-(c0+1),by omega,c0+1,(owS (ds.map (·.1)) p i0 c0 y t),?a12_s2,?a12_nx,by omega,rfl,?i12_0,?i12_1,?i12_2,?st12⟩;case st12=>(simp only [F7,zT,seval,owS,ht];first|rfl|(simp [owS,ay,bp,List.length_append,List.length_cons,List.length_nil,hI0,hI1,hat1,ht,Nat.add_mul];done))
    case i12_0=>(first|exact hL1|(rw [←hL1];simp only [reduceIte,hI0,hI1,hat1,ht];done)|(rw [←hL1];simp [hI0,hI1,hat1,ht];done)|(simp [hI0,hI1,hat1,ht] at hL1;simpa using hL1)|(rw [←hL1];simp [*];done))
    all_goals (first|omega|assumption|(simp;omega)|(simp_all;done))
   by_cases h4:(4:Int)<=(t.l.length:Int)
   ·refine awR [39] [0,0,0,0,0,82,82,82,82,0] ?_;simp only [F7,zT,seval];repeat refine ob ?_
    refine ⟨_,fX (nQ ⟨ps.map (·.1),ds.map (·.1)⟩ i0 c0 (by simpa using hnd) hdl) rfl (fun e σ w vs hW hd=>?_),?_⟩
    ·obtain ⟨v1,vs1,rfl,d1,hd1⟩:=cC hd;obtain ⟨v2,vs2,rfl,d2,hd2⟩:=cC hd1;obtain ⟨v3,vs3,rfl,d3,hd3⟩:=cC hd2;obtain ⟨us,rfl,du⟩:=d1;exact ⟨⟨us,rfl,j2 (o:=o) (EA:=50) (er:=49) (dr:=51) (s:=s9) (n:=ps.length) (m:=ds.length) (ps:=ps) (ds:=ds) hW h49 rfl h51 rfl (fun j r hj=>by (try simp only [aj]);(repeat rw [if_neg (by omega)]);exact htab j r hj) (fun j r hj=>by (try simp only [aj]);(repeat rw [if_neg (by omega)]);exact htbd j r hj) (fun q r hq hr=>by (try simp only [aj]);(repeat rw [if_neg (by omega)]);exact h7 q r hq hr) du⟩,d2,d3,jf hd3⟩
    rintro res H' nx' ⟨rfl,rfl,rfl⟩;try simp only [aq,F7,zT,seval,ht,h4]
    repeat refine ob ?_
    refine awT ?_;refine awQ ?_;simp only [F7,zT,seval];refine awN ?_;simp only [F7,zT,seval];repeat refine ob ?_
    repeat refine ob ?_
    refine ⟨_,bE H [2,3,4,5,6,7,8,19,20,21,29,30,31] [502,503,505,578] (km hn (fun x h=>by (try simp only [aj]);repeat rw [if_neg (by omega)]) _),q.1.claims.length-(c0+1),by omega,c0+1,(owS (ds.map (·.1)) p i0 c0 y t),?a15_s2,?a15_nx,by omega,rfl,?i15_0,?i15_1,?i15_2,?st15⟩;case st15=>(simp only [F7,zT,seval,owS,ht,h4];first|rfl|(simp [owS,ay,bp,List.length_append,List.length_cons,List.length_nil,hI0,hI1,hat1,ht,h4,Nat.add_mul];done))
    case i15_0=>(first|exact hL1|(rw [←hL1];simp only [reduceIte,hI0,hI1,hat1,ht,h4];done)|(rw [←hL1];simp [hI0,hI1,hat1,ht,h4];done)|(simp [hI0,hI1,hat1,ht,h4] at hL1;simpa using hL1)|(rw [←hL1];simp [*];done))
    all_goals (first|omega|assumption|(simp;omega)|(simp_all;done))
   refine awR [39] [0,0,0,0,0,82,82,82,82,0] ?_;simp only [F7,zT,seval];repeat refine ob ?_
   refine ⟨_,fX (nQ ⟨ps.map (·.1),ds.map (·.1)⟩ i0 c0 (by simpa using hnd) hdl) rfl (fun e σ w vs hW hd=>?_),?_⟩
   ·obtain ⟨v1,vs1,rfl,d1,hd1⟩:=cC hd;obtain ⟨v2,vs2,rfl,d2,hd2⟩:=cC hd1;obtain ⟨v3,vs3,rfl,d3,hd3⟩:=cC hd2;obtain ⟨us,rfl,du⟩:=d1;exact ⟨⟨us,rfl,j2 (o:=o) (EA:=50) (er:=49) (dr:=51) (s:=s9) (n:=ps.length) (m:=ds.length) (ps:=ps) (ds:=ds) hW h49 rfl h51 rfl (fun j r hj=>by (try simp only [aj]);(repeat rw [if_neg (by omega)]);exact htab j r hj) (fun j r hj=>by (try simp only [aj]);(repeat rw [if_neg (by omega)]);exact htbd j r hj) (fun q r hq hr=>by (try simp only [aj]);(repeat rw [if_neg (by omega)]);exact h7 q r hq hr) du⟩,d2,d3,jf hd3⟩
   rintro res H' nx' ⟨rfl,rfl,rfl⟩;try simp only [aq,F7,zT,seval,ht,h4]
   repeat refine ob ?_
   refine awF ?_;refine awK ?_;simp only [F7,zT,seval];have w3:((t.k:Nat):Int).tmod 16=((t.k%16:Nat):Int):=by norm_cast
   have w4:IntKind.u64.wrap ((t.k%16:Nat):Int)=((t.k%16:Nat):Int):=qS (t.k%16) (by omega);have w5:=vp p.a (t.k%16) hp.1 (by omega);refine awN ?_;simp only [F7,zT,seval,w3,w4,w5];repeat refine ob ?_
   refine awN ?_;simp only [F7,zT,seval];repeat refine ob ?_
   by_cases hb:((p.a/2^(t.k%16)%2:Nat):Int)=1
   ·have yhb:p.a/2^(t.k%16)%2=1:=by omega
    by_cases hz:(t.l.length:Int)=0
    ·refine awR [] [0,0,119,119,119,119,119,128,128,128,128,119,0] ?_;simp only [F7,zT,seval,yhb,hz];repeat refine ob ?_
     refine awT ?_;refine awN ?_;simp only [F7,zT,seval];repeat refine ob ?_
     refine awN ?_;simp only [F7,zT,seval];repeat refine ob ?_
     refine awN ?_;simp only [F7,zT,seval];repeat refine ob ?_
     repeat refine ob ?_
     refine ⟨_,bE H [2,3,4,5,6,7,8,19,20,21,29,30,31] [502,503,505,578] (km hn (fun x h=>by (try simp only [aj]);repeat rw [if_neg (by omega)]) _),q.1.claims.length-(c0+1),by omega,c0+1,(owS (ds.map (·.1)) p i0 c0 y t),?a23_s2,?a23_nx,by omega,rfl,?i23_0,?i23_1,?i23_2,?st23⟩;case st23=>(simp only [F7,zT,seval,owS,ay,bp,List.length_append,ht,yhb,hz];first|rfl|(simp [owS,ay,bp,List.length_append,List.length_cons,List.length_nil,hI0,hI1,hat1,ht,h4,hb,yhb,hz,Nat.add_mul];done))
     case i23_0=>(first|exact hL1|(rw [←hL1];simp only [reduceIte,hI0,hI1,hat1,ht,h4,hb,yhb,hz];done)|(rw [←hL1];simp [hI0,hI1,hat1,ht,h4,hb,yhb,hz];done)|(simp [hI0,hI1,hat1,ht,h4,hb,yhb,hz] at hL1;simpa using hL1)|(rw [←hL1];simp [*];done))
     all_goals (first|omega|assumption|(simp;omega)|(simp_all;done))
    by_cases hh:y.holder=t.h
    ·refine awR [] [0,0,119,119,119,119,119,128,128,128,128,119,0] ?_;simp only [F7,zT,seval,yhb,hz,hh];repeat refine ob ?_
     refine awT ?_;refine awN ?_;simp only [F7,zT,seval];repeat refine ob ?_
     refine awN ?_;simp only [F7,zT,seval];repeat refine ob ?_
     refine awN ?_;simp only [F7,zT,seval];repeat refine ob ?_
     repeat refine ob ?_
     refine ⟨_,bE H [2,3,4,5,6,7,8,19,20,21,29,30,31] [502,503,505,578] (km hn (fun x h=>by (try simp only [aj]);repeat rw [if_neg (by omega)]) _),q.1.claims.length-(c0+1),by omega,c0+1,(owS (ds.map (·.1)) p i0 c0 y t),?a28_s2,?a28_nx,by omega,rfl,?i28_0,?i28_1,?i28_2,?st28⟩;case st28=>(simp only [F7,zT,seval,owS,ay,bp,List.length_append,ht,h4,yhb,hz,hh];first|rfl|(simp [owS,ay,bp,List.length_append,List.length_cons,List.length_nil,hI0,hI1,hat1,ht,h4,hb,yhb,hz,hh,Nat.add_mul];done))
     case i28_0=>(first|exact hL1|(rw [←hL1];simp only [reduceIte,hI0,hI1,hat1,ht,h4,hb,yhb,hz,hh];done)|(rw [←hL1];simp [hI0,hI1,hat1,ht,h4,hb,yhb,hz,hh];done)|(simp [hI0,hI1,hat1,ht,h4,hb,yhb,hz,hh] at hL1;simpa using hL1)|(rw [←hL1];simp [*];done))
     all_goals (first|omega|assumption|(simp;omega)|(simp_all;done))
    refine awR [] [0,0,119,119,119,119,119,128,128,128,128,119,0] ?_;simp only [F7,zT,seval,yhb,hz,hh];repeat refine ob ?_
    refine awF ?_;refine awK ?_;simp only [F7,zT,seval];refine awN ?_;simp only [F7,zT,seval];repeat refine ob ?_
    repeat refine ob ?_
    refine ⟨_,bE H [2,3,4,5,6,7,8,19,20,21,29,30,31] [502,503,505,578] (km hn (fun x h=>by (try simp only [aj]);repeat rw [if_neg (by omega)]) _),q.1.claims.length-(c0+1),by omega,c0+1,(owS (ds.map (·.1)) p i0 c0 y t),?a31_s2,?a31_nx,by omega,rfl,?i31_0,?i31_1,?i31_2,?st31⟩;case st31=>(simp only [F7,zT,seval,owS,ht,h4,yhb,hz,hh];first|rfl|(simp [owS,ay,bp,List.length_append,List.length_cons,List.length_nil,hI0,hI1,hat1,ht,h4,hb,yhb,hz,hh,Nat.add_mul];done))
    case i31_0=>(first|exact hL1|(rw [←hL1];simp only [reduceIte,hI0,hI1,hat1,ht,h4,hb,yhb,hz,hh];done)|(rw [←hL1];simp [hI0,hI1,hat1,ht,h4,hb,yhb,hz,hh];done)|(simp [hI0,hI1,hat1,ht,h4,hb,yhb,hz,hh] at hL1;simpa using hL1)|(rw [←hL1];simp [*];done))
    all_goals (first|omega|assumption|(simp;omega)|(simp_all;done))
   have yhb:¬p.a/2^(t.k%16)%2=1:=by omega
   refine awR [] [0,0,119,119,119,119,119,128,128,128,128,119,0] ?_;simp only [F7,zT,seval,hb];repeat refine ob ?_
   refine awF ?_;refine awK ?_;simp only [F7,zT,seval];refine awN ?_;simp only [F7,zT,seval];repeat refine ob ?_
   repeat refine ob ?_
   refine ⟨_,bE H [2,3,4,5,6,7,8,19,20,21,29,30,31] [502,503,505,578] (km hn (fun x h=>by (try simp only [aj]);repeat rw [if_neg (by omega)]) _),q.1.claims.length-(c0+1),by omega,c0+1,(owS (ds.map (·.1)) p i0 c0 y t),?a34_s2,?a34_nx,by omega,rfl,?i34_0,?i34_1,?i34_2,?st34⟩;case st34=>(simp only [F7,zT,seval,owS,ht,h4,yhb];first|rfl|(simp [owS,ay,bp,List.length_append,List.length_cons,List.length_nil,hI0,hI1,hat1,ht,h4,hb,yhb,Nat.add_mul];done))
   case i34_0=>(first|exact hL1|(rw [←hL1];simp only [reduceIte,hI0,hI1,hat1,ht,h4,hb,yhb];done)|(rw [←hL1];simp [hI0,hI1,hat1,ht,h4,hb,yhb];done)|(simp [hI0,hI1,hat1,ht,h4,hb,yhb] at hL1;simpa using hL1)|(rw [←hL1];simp [*];done))
   all_goals (first|omega|assumption|(simp;omega)|(simp_all;done))
  obtain rfl:c0=q.1.claims.length:=by omega
  have hI1:¬(q.1.claims.length:Int)<(q.1.claims.length:Int):=by omega
  rw [List.drop_length] at hL1;simp only [owC] at hL1;refine awN ?_;simp only [F7,zT,seval,cN3,hI1];repeat refine ob ?_
  refine awF ?_;refine awQ ?_;simp only [F7,zT,seval];refine awN ?_;simp only [F7,zT,seval];repeat refine ob ?_
  repeat refine ob ?_
  refine ⟨_,bE H [2,3,4,5,6,7,19,20,21] [502,503,505,578] (km hn (fun x h=>by (try simp only [aj]);repeat rw [if_neg (by omega)]) _),ps.length-(i0+1),by omega,i0+1,?a37_s,?a37_s1,?a37_nx,by omega,rfl,?i37_0,?i37_1,?i37_2,?st37⟩;case st37=>(simp only [F7,zT,seval];first|rfl|(simp [hI0,hI1,Nat.add_mul];done))
  case i37_0=>(rw [←hL0,←hL1])
  all_goals (first|omega|assumption|(simp;omega)|(simp_all;done))
 obtain rfl:i0=ps.length:=by omega
 have hI0:¬(ps.length:Int)<(ps.length:Int):=by omega
 rw [List.drop_length] at hL0;simp only [List.map_nil,owE] at hL0;refine awN ?_;simp only [F7,zT,seval,cN3,hI0];repeat refine ob ?_
 refine awF ?_;refine awQ ?_;simp only [F7,zT,seval];by_cases hr:((p.b%2:Nat):Int)=1
 ·have yhr:p.b%2=1:=by omega
  have w6:((p.b:Nat):Int).tmod 2=((p.b%2:Nat):Int):=by norm_cast
  refine awN ?_;simp only [F7,zT,seval,yhr,w6];repeat refine ob ?_
  refine awT ?_;refine awD (scT 0 6 .nil) [0,0,0,0,0,0] ?_;simp only [F7,zT,seval];repeat refine ob ?_
  generalize hLg:s.l=L at *
  have e0:(L.length:Int)-1=(L.length:Int)-1-((0:Nat):Int):=by omega
  rw [e0];refine aE H [2,3,4,5,12,13] [502,503,505,578] (km hn (fun x h=>by (try simp only [aj]);repeat rw [if_neg (by omega)]) _) ?_;try simp only [aq,F7,zT,seval]
  repeat' first|apply awS|apply awB
  refine aB (fun n st=>∃m s1 nx,m<=L.length/2/\n=L.length-m/\st=⟨mkT [(2,.val (.one (.ptr 502 ny 0))),(3,.val (.one (.ptr 503 (ny+1) 0))),(4,.val (.one (.lit (.slice none 0 0)))),(5,.val (.one (.ptr 505 (ny+2) 0))),(12,one (.int .i64 m)),(13,one (.int .i64 ((L.length:Int)-1-m)))],bW H [(502,⟨ny,28,2,1,[.own 49 s9 ps.length 5,.own 51 s8 ds.length 4]⟩),(503,⟨ny+1,93,3,1,cN3 p⟩),(505,⟨ny+2,42,4,1,[.lit (.bool (enc (cY p.c)).neg),.lit (.string (enc (cY p.c)).num),.lit (.string (enc (cY p.c)).den),.own 578 s1 (rvL L m).length 2]⟩),(578,⟨s1,44,2,(rvL L m).length,ar bp (rvL L m)⟩)],nx,500⟩) (L.length) ⟨0,_,_,by omega,by omega,rfl⟩ ?_;rintro n2 st ⟨m,s1,nx2,hm,rfl,rfl⟩;by_cases hlt:(m:Int)<(L.length:Int)-1-m
  ·refine awN ?_;simp only [F7,zT,seval,cN3,hlt];repeat refine ob ?_
   refine awT ?_;refine awK ?_;simp only [F7,zT,seval];obtain ⟨j,hj⟩:∃j:Nat,(L.length:Int)-1-m=j:=⟨L.length-1-m,by omega⟩;have hjn:j=L.length-1-m:=by omega
   simp only [hj];have hm1:m<(rvL L m).length:=by rw [jC];omega
   have hj1:j<(rvL L m).length:=by rw [jC];omega
   have hln:=jC L m;have a1:=aO cr (rvL L m) m hm1;have a2:=aO cr (rvL L m) j hj1;have b1:=pw cr (rvL L m) m (rvL L m)[j] hm1;have b2:=pw cr ((rvL L m).set m (rvL L m)[j]) j (rvL L m)[m] (by simpa using hj1);simp only [bp] at a1 a2 b1 b2;have f1:=aS cr (rvL L m);have f2:=aS cr ((rvL L m).set m (rvL L m)[j]);rw [List.length_set] at f2;refine awD (scT 0 4 (scT 5 12 (.two 4 17 (scq [34,37,38] .nil) (scq [9,37,38] .nil)))) [0,0,0,0,0,0,0,0,0,0,0,0,0,0,0,0,0,0,0,0] ?_;simp only [F7,zT,seval,a1,a2,b1,b2,f1,f2];repeat refine ob ?_
   refine ⟨?_,?_⟩
   ·repeat refine ob ?_
    refine awN ?_;simp only [F7,zT,seval];repeat refine ob ?_
    repeat refine ob ?_
    have hr1:rvL L (m+1)=((rvL L m).set m (rvL L m)[j]).set j (rvL L m)[m]:=by simp [rvL,swp,←hjn,hm1,hj1]
    have e1:(j:Int)-1=(L.length:Int)-1-((m+1:Nat):Int):=by omega
    refine ⟨_,bE H [2,3,4,5,12,13] [502,503,505,578] (km hn (fun x h=>by (try simp only [aj]);repeat rw [if_neg (by omega)]) _),L.length-(m+1),by omega,m+1,s1,nx2,by omega,rfl,?_⟩;simp only [F7,zT,seval,hr1,List.length_set,e1,Int.natCast_add];try rfl
   repeat refine ob ?_
   refine awN ?_;simp only [F7,zT,seval];repeat refine ob ?_
   repeat refine ob ?_
   have hr1:rvL L (m+1)=((rvL L m).set m (rvL L m)[j]).set j (rvL L m)[m]:=by simp [rvL,swp,←hjn,hm1,hj1]
   have e1:(j:Int)-1=(L.length:Int)-1-((m+1:Nat):Int):=by omega
   refine ⟨_,bE H [2,3,4,5,12,13] [502,503,505,578] (km hn (fun x h=>by (try simp only [aj]);repeat rw [if_neg (by omega)]) _),L.length-(m+1),by omega,m+1,s1,nx2,by omega,rfl,?_⟩;simp only [F7,zT,seval,hr1,List.length_set,e1,Int.natCast_add];try rfl
  refine awN ?_;simp only [F7,zT,seval,cN3,hlt];repeat refine ob ?_
  refine awF ?_;refine awQ ?_;simp only [F7,zT,seval];refine awD (scq [1,3] (.two 2 3 (scq [7,8,10,13] .nil) (.two 2 4 (scq [8,10,13] .nil) (scq [4,10,13] .nil)))) [0,0,0,0,0,0,0] ?_;simp only [F7,zT,seval,h51];repeat refine ob ?_
  refine ⟨?_,?_⟩
  ·repeat refine ob ?_
   have hm2:m=L.length/2:=by omega
   subst hm2;have hO:owN ⟨ps.map (·.1),ds.map (·.1)⟩ p=⟨enc (cY p.c),rvL L (L.length/2)⟩:=by unfold owN;simp only [←hL0,if_pos yhr,hLg]
   refine eO 578 (1000*(ds.length+1)+104) 620 (ds.length*4+3) (by rfl) (by rfl) (gr ds _ _ _ _) (by decide) (by omega) (by show (2:Nat)≠0;decide) (by show (4:Nat)≠0;decide) rfl ?_;refine aE (up H (1000*(ds.length+1)+104) (some ⟨nx2+3,44,2,(rvL L (L.length/2)).length,ar bp (rvL L (L.length/2))⟩)) [4] [620] (fun x B h=>?pf1) ?_;case pf1=>
    right;rw [aj] at h;split at h
    ·rename_i h1;subst h1;rw [←h];simp only [aj];repeat rw [if_neg (by omega)]
     first|rw [if_pos rfl]|rw [if_pos trivial]|rfl
    rename_i h1;have h2:=hn x B h;simp only [aj];repeat rw [if_neg (by omega)]
    exact h
   simp only [F7,zT,seval];refine awX ?_;simp only [F7,zT,seval];refine ⟨_,nx2+3,rfl,?_⟩;rw [hO,←gp];try rfl
  repeat refine ob ?_
  refine ⟨?_,?_⟩
  ·repeat refine ob ?_
   have hm2:m=L.length/2:=by omega
   subst hm2;have hO:owN ⟨ps.map (·.1),ds.map (·.1)⟩ p=⟨enc (cY p.c),rvL L (L.length/2)⟩:=by unfold owN;simp only [←hL0,if_pos yhr,hLg]
   refine eO 578 (1000*(ds.length+1)+104) 620 (ds.length*4+3) (by rfl) (by rfl) (gr ds _ _ _ _) (by decide) (by omega) (by show (2:Nat)≠0;decide) (by show (4:Nat)≠0;decide) rfl ?_;refine aE (up H (1000*(ds.length+1)+104) (some ⟨nx2+3,44,2,(rvL L (L.length/2)).length,ar bp (rvL L (L.length/2))⟩)) [4] [620] (fun x B h=>?pf2) ?_;case pf2=>
    right;rw [aj] at h;split at h
    ·rename_i h1;subst h1;rw [←h];simp only [aj];repeat rw [if_neg (by omega)]
     first|rw [if_pos rfl]|rw [if_pos trivial]|rfl
    rename_i h1;have h2:=hn x B h;simp only [aj];repeat rw [if_neg (by omega)]
    exact h
   simp only [F7,zT,seval];refine awX ?_;simp only [F7,zT,seval];refine ⟨_,nx2+3,rfl,?_⟩;rw [hO,←gp];try rfl
  repeat refine ob ?_
  have hm2:m=L.length/2:=by omega
  subst hm2;have hO:owN ⟨ps.map (·.1),ds.map (·.1)⟩ p=⟨enc (cY p.c),rvL L (L.length/2)⟩:=by unfold owN;simp only [←hL0,if_pos yhr,hLg]
  refine eO 578 (1000*(ds.length+1)+104) 620 (ds.length*4+3) (by rfl) (by rfl) (gr ds _ _ _ _) (by decide) (by omega) (by show (2:Nat)≠0;decide) (by show (4:Nat)≠0;decide) rfl ?_;refine aE (up H (1000*(ds.length+1)+104) (some ⟨nx2+3,44,2,(rvL L (L.length/2)).length,ar bp (rvL L (L.length/2))⟩)) [4] [620] (fun x B h=>?pf3) ?_;case pf3=>
   right;rw [aj] at h;split at h
   ·rename_i h1;subst h1;rw [←h];simp only [aj];repeat rw [if_neg (by omega)]
    first|rw [if_pos rfl]|rw [if_pos trivial]|rfl
   rename_i h1;have h2:=hn x B h;simp only [aj];repeat rw [if_neg (by omega)]
   exact h
  simp only [F7,zT,seval];refine awX ?_;simp only [F7,zT,seval];refine ⟨_,nx2+3,rfl,?_⟩;rw [hO,←gp];try rfl
 have yhr:¬p.b%2=1:=by omega
 have w6:((p.b:Nat):Int).tmod 2=((p.b%2:Nat):Int):=by norm_cast
 refine awN ?_;simp only [F7,zT,seval,hr,w6];repeat refine ob ?_
 refine awF ?_;refine awK ?_;simp only [F7,zT,seval];refine awD (scq [1,3] (.two 2 3 (scq [7,8,10,13] .nil) (.two 2 4 (scq [8,10,13] .nil) (scq [4,10,13] .nil)))) [0,0,0,0,0,0,0] ?_;simp only [F7,zT,seval,h51];repeat refine ob ?_
 refine ⟨?_,?_⟩
 ·repeat refine ob ?_
  have hO:owN ⟨ps.map (·.1),ds.map (·.1)⟩ p=⟨enc (cY p.c),s.l⟩:=by unfold owN;simp only [←hL0,if_neg yhr]
  refine eO 578 (1000*(ds.length+1)+104) 620 (ds.length*4+3) (by rfl) (by rfl) (gr ds _ _ _ _) (by decide) (by omega) (by show (2:Nat)≠0;decide) (by show (4:Nat)≠0;decide) rfl ?_;refine aE (up H (1000*(ds.length+1)+104) (some ⟨nx0+3,44,2,(s.l).length,ar bp (s.l)⟩)) [4] [620] (fun x B h=>?pf4) ?_;case pf4=>
   right;rw [aj] at h;split at h
   ·rename_i h1;subst h1;rw [←h];simp only [aj];repeat rw [if_neg (by omega)]
    first|rw [if_pos rfl]|rw [if_pos trivial]|rfl
   rename_i h1;have h2:=hn x B h;simp only [aj];repeat rw [if_neg (by omega)]
   exact h
  simp only [F7,zT,seval];refine awX ?_;simp only [F7,zT,seval];refine ⟨_,nx0+3,rfl,?_⟩;rw [hO,←gp];try rfl
 repeat refine ob ?_
 refine ⟨?_,?_⟩
 ·repeat refine ob ?_
  have hO:owN ⟨ps.map (·.1),ds.map (·.1)⟩ p=⟨enc (cY p.c),s.l⟩:=by unfold owN;simp only [←hL0,if_neg yhr]
  refine eO 578 (1000*(ds.length+1)+104) 620 (ds.length*4+3) (by rfl) (by rfl) (gr ds _ _ _ _) (by decide) (by omega) (by show (2:Nat)≠0;decide) (by show (4:Nat)≠0;decide) rfl ?_;refine aE (up H (1000*(ds.length+1)+104) (some ⟨nx0+3,44,2,(s.l).length,ar bp (s.l)⟩)) [4] [620] (fun x B h=>?pf5) ?_;case pf5=>
   right;rw [aj] at h;split at h
   ·rename_i h1;subst h1;rw [←h];simp only [aj];repeat rw [if_neg (by omega)]
    first|rw [if_pos rfl]|rw [if_pos trivial]|rfl
   rename_i h1;have h2:=hn x B h;simp only [aj];repeat rw [if_neg (by omega)]
   exact h
  simp only [F7,zT,seval];refine awX ?_;simp only [F7,zT,seval];refine ⟨_,nx0+3,rfl,?_⟩;rw [hO,←gp];try rfl
 repeat refine ob ?_
 have hO:owN ⟨ps.map (·.1),ds.map (·.1)⟩ p=⟨enc (cY p.c),s.l⟩:=by unfold owN;simp only [←hL0,if_neg yhr]
 refine eO 578 (1000*(ds.length+1)+104) 620 (ds.length*4+3) (by rfl) (by rfl) (gr ds _ _ _ _) (by decide) (by omega) (by show (2:Nat)≠0;decide) (by show (4:Nat)≠0;decide) rfl ?_;refine aE (up H (1000*(ds.length+1)+104) (some ⟨nx0+3,44,2,(s.l).length,ar bp (s.l)⟩)) [4] [620] (fun x B h=>?pf6) ?_;case pf6=>
  right;rw [aj] at h;split at h
  ·rename_i h1;subst h1;rw [←h];simp only [aj];repeat rw [if_neg (by omega)]
   first|rw [if_pos rfl]|rw [if_pos trivial]|rfl
  rename_i h1;have h2:=hn x B h;simp only [aj];repeat rw [if_neg (by omega)]
  exact h
 simp only [F7,zT,seval];refine awX ?_;simp only [F7,zT,seval];refine ⟨_,nx0+3,rfl,?_⟩;rw [hO,←gp];try rfl
theorem ss (e:GEst) (p:N3) (H:Hp) (ny b9 sc:Nat) (hn:∀x B,H x=some B->x<500∨x%1000=103) (hH:H b9=some ⟨sc,38,5,e.claims.length,ar aA e.claims⟩) (h9:b9%1000=103) (hp:p.a<65536/\p.b<65536/\p.c<65536) (hc:e.claims.length<=30) (hna:e.agrs.length<=1000000000000) (he:∀a∈e.agrs,a.length<=1000000000000/\∀t∈a,t.length<=1000000000000):
  dk prog 29 [.agg [.lit (.bool e.cash.neg),.lit (.string e.cash.num),.lit (.string e.cash.den),.own b9 sc e.claims.length 5,.sh 1 e.agrs.length (ar aU e.agrs)],.agg (cN3 p)] H ny (fun res H' _=>∃t,res= .val (.one (.own 598 t (e.agrs.length+1) 1))/\H'=bW H [(598,⟨t,50,1,e.agrs.length+1,ar aU (e.agrs++[bgN e p])⟩)]):=by
 have F9:∀c,c%1000≠103->((b9=c)=False):=fun c hc=>by simp;omega
 refine fm 500 func29 rfl (by decide) (N:=99) rfl (by simp) (Rl:=[.tmp 4]) rfl fun en k0=>?_
 refine awN ?_;simp only [F5,zT,seval,cN3];repeat refine ob ?_
 refine awN ?_;simp only [F5,zT,seval];repeat refine ob ?_
 refine awN ?_;simp only [F5,zT,seval];repeat refine ob ?_
 refine awN ?_;simp only [F5,zT,seval,F9,hH];repeat refine ob ?_
 refine dE 511 0 1063 _ 46 5 (by decide) (by rfl) (by decide) (by simp) (by rfl) ?_;refine dE 511 1 2063 _ 46 5 (by decide) (by rfl) (by decide) (by simp) (by rfl) ?_;refine dE 511 2 3063 _ 46 5 (by decide) (by rfl) (by decide) (by simp) (by rfl) ?_;refine aE H [2,3,4,5,6,17,18] [502,503,511,1063,2063,3063] (onR hn (fun x h=>by (try simp only [aj]);repeat rw [if_neg (by omega)]) _) ?_;try simp only [aq,F5,zT,seval,ay]
 repeat' first|apply awS|apply awB
 refine aB (fun n st=>∃k0 T s1 s2 s3 nx,k0<=e.claims.length/\n=e.claims.length-k0/\bgL e.agrs p (e.claims.drop k0) k0 T=bgL e.agrs p e.claims 0 ⟨[],[],[]⟩/\T.a.length<=k0/\T.b.length<=k0/\T.c.length<=k0/\st=⟨mkT [(2,.val (.one (.ptr 502 ny 0))),(3,.val (.one (.ptr 503 (ny+1) 0))),(4,.val (.one (.lit (.slice none 0 0)))),(5,.val (.one (.own 511 (ny+2) 3 1))),(6,one (.int .i64 p.b)),(17,one (.int .i64 e.claims.length)),(18,one (.int .i64 k0))],bW H [(502,⟨ny,36,5,1,[.lit (.bool e.cash.neg),.lit (.string e.cash.num),.lit (.string e.cash.den),.own b9 sc e.claims.length 5,.sh 1 e.agrs.length (ar aU e.agrs)]⟩),(503,⟨ny+1,93,3,1,cN3 p⟩),(511,⟨ny+2,47,1,3,[.own 1063 s1 T.a.length 5,.own 2063 s2 T.b.length 5,.own 3063 s3 T.c.length 5]⟩),(1063,⟨s1,46,5,T.a.length,ar aT T.a⟩),(2063,⟨s2,46,5,T.b.length,ar aT T.b⟩),(3063,⟨s3,46,5,T.c.length,ar aT T.c⟩)],nx,500⟩) (e.claims.length) ⟨0,⟨[],[],[]⟩,_,_,_,_,by omega,by omega,by rfl,(by first|omega|assumption|rfl|simp|(simp;omega)),(by first|omega|assumption|rfl|simp|(simp;omega)),(by first|omega|assumption|rfl|simp|(simp;omega)),rfl⟩ ?_;rintro n0 st ⟨k0,T,s1,s2,s3,nx0,hk0,rfl,hL0,hV0_1,hV0_2,hV0_3,rfl⟩;by_cases hlt0:k0<e.claims.length
 ·have hI0:(k0:Int)<(e.claims.length:Int):=by omega
  rw [List.drop_eq_getElem_cons hlt0] at hL0;have aL:=nR e.agrs p k0 T;simp only [bgL] at hL0;refine awN ?_;simp only [F5,zT,seval,cN3,hI0];repeat refine ob ?_
  refine awT ?_;refine awK ?_;simp only [F5,zT,seval];refine awN ?_;simp only [F5,zT,seval];repeat refine ob ?_
  have w2:IntKind.u64.wrap (2*(k0:Int))=((2*k0:Nat):Int):=by have:=qS (2*k0) (by omega);rw [←this];norm_cast
  have w3:=zL p.b (2*k0) hp.2.1 (by omega);rw [pv] at w3;change _=((bgB p k0:Nat):Int) at w3;refine awN ?_;simp only [F5,zT,seval,w2,w3];repeat refine ob ?_
  by_cases hx:((bgB p k0:Nat):Int)=0
  ·have yhx:bgB p k0=0:=by omega
   refine awR [] [0,0,0,60,60,60,60,0] ?_;simp only [F5,zT,seval,yhx];repeat refine ob ?_
   refine awT ?_;refine awQ ?_;simp only [F5,zT,seval];refine awN ?_;simp only [F5,zT,seval];repeat refine ob ?_
   repeat refine ob ?_
   refine ⟨_,bE H [2,3,4,5,6,17,18] [502,503,511,1063,2063,3063] (onR hn (fun x h=>by (try simp only [aj]);repeat rw [if_neg (by omega)]) _),e.claims.length-(k0+1),by omega,k0+1,(bgS e.agrs p k0 T),?a9_s1,?a9_s2,?a9_s3,?a9_nx,by omega,rfl,?i9_0,?i9_1,?i9_2,?i9_3,?st9⟩;case st9=>(simp only [F5,zT,seval,bgS,yhx];first|rfl|(simp [bgS,T3.put,bgP,ay,aT,List.length_append,List.length_cons,List.length_nil,hI0,hx,yhx,Nat.add_mul];done))
   case i9_0=>(first|exact hL0|(rw [←hL0];simp only [reduceIte,hI0,hx,yhx];done)|(rw [←hL0];simp [hI0,hx,yhx];done)|(simp [hI0,hx,yhx] at hL0;simpa using hL0)|(rw [←hL0];simp [*];done))
   all_goals (first|omega|assumption|(simp;omega)|(simp_all;done))
  have yhx:¬bgB p k0=0:=by omega
  by_cases hfr:frA k0 e.agrs=true
  ·refine awR [] [0,0,0,60,60,60,60,0] ?_;simp only [F5,zT,seval,F9,hx,hH,ab bA,ab bg];repeat refine ob ?_
   refine ⟨_,(nP e k0 hna he),rfl,?_⟩;try simp only [aq,F5,zT,seval,hfr]
   repeat refine ob ?_
   refine awF ?_;refine awK ?_;simp only [F5,zT,seval];refine awN ?_;simp only [F5,zT,seval];repeat refine ob ?_
   by_cases hb:((p.c/2^k0%2:Nat):Int)=1
   ·have yhb:p.c/2^k0%2=1:=by omega
    have w4:=qS k0 (by omega);have w5:=vp p.c k0 hp.2.2 (by omega);refine awN ?_;simp only [F5,zT,seval,yhb,w4,w5];repeat refine ob ?_
    refine awT ?_;refine awN ?_;simp only [F5,zT,seval];repeat refine ob ?_
    have w6:((p.c:Nat):Int).fdiv (2^min 6 IntKind.u16.bits)=((p.c/64:Nat):Int):=by show ((p.c:Nat):Int).fdiv 64=_;rw [Int.fdiv_eq_ediv_of_nonneg _ (by decide)];norm_cast
    have w7:((p.c/64:Nat):Int).tmod 9=((p.c/64%9:Nat):Int):=by norm_cast
    refine awN ?_;simp only [F5,zT,seval,w6,w7];repeat refine ob ?_
    refine ⟨_,(fG ((p.c/64%9:Nat):Int) (by omega) (by omega)),rfl,?_⟩;try simp only [aq,F5,zT,seval,cS]
    repeat refine ob ?_
    by_cases x1:((bgB p k0:Nat):Int)=1
    ·have yx1:bgB p k0=1:=by omega
     refine cf 1000 ?_;dsimp only;refine awD (scT 0 9 (scq [18,20,23,24] .nil)) [0,0,0,0,0,0,0,0,0,0,0,0,0] ?_;simp only [F5,zT,seval,yx1];repeat refine ob ?_
     refine cf 500 ?_;dsimp only;refine awN ?_;simp only [F5,zT,seval];repeat refine ob ?_
     repeat refine ob ?_
     refine ⟨_,bE H [2,3,4,5,6,17,18] [502,503,511,1063,2063,3063] (onR hn (fun x h=>by (try simp only [aj]);repeat rw [if_neg (by omega)]) _),e.claims.length-(k0+1),by omega,k0+1,(bgS e.agrs p k0 T),?a17_s1,?a17_s2,?a17_s3,?a17_nx,by omega,rfl,?i17_0,?i17_1,?i17_2,?i17_3,?st17⟩;case st17=>(simp only [F5,zT,seval,bgS,T3.put,bgP,ay,aT,List.length_append,hfr,yhb,yx1];first|rfl|(simp [bgS,T3.put,bgP,ay,aT,List.length_append,List.length_cons,List.length_nil,hI0,hx,yhx,hfr,hb,yhb,x1,yx1,Nat.add_mul];done))
     case i17_0=>(first|exact hL0|(rw [←hL0];simp only [reduceIte,hI0,hx,yhx,hfr,hb,yhb,x1,yx1];done)|(rw [←hL0];simp [hI0,hx,yhx,hfr,hb,yhb,x1,yx1];done)|(simp [hI0,hx,yhx,hfr,hb,yhb,x1,yx1] at hL0;simpa using hL0)|(rw [←hL0];simp [*];done))
     all_goals (first|omega|assumption|(simp;omega)|(simp_all;done))
    have yx1:¬bgB p k0=1:=by omega
    by_cases x2:((bgB p k0:Nat):Int)=2
    ·have yx2:bgB p k0=2:=by omega
     refine cf 2000 ?_;dsimp only;refine awD (scT 0 9 (scq [18,20,23,24] .nil)) [0,0,0,0,0,0,0,0,0,0,0,0,0] ?_;simp only [F5,zT,seval,yx2];repeat refine ob ?_
     refine cf 500 ?_;dsimp only;refine awN ?_;simp only [F5,zT,seval];repeat refine ob ?_
     repeat refine ob ?_
     refine ⟨_,bE H [2,3,4,5,6,17,18] [502,503,511,1063,2063,3063] (onR hn (fun x h=>by (try simp only [aj]);repeat rw [if_neg (by omega)]) _),e.claims.length-(k0+1),by omega,k0+1,(bgS e.agrs p k0 T),?a20_s1,?a20_s2,?a20_s3,?a20_nx,by omega,rfl,?i20_0,?i20_1,?i20_2,?i20_3,?st20⟩;case st20=>(simp only [F5,zT,seval,bgS,T3.put,bgP,ay,aT,List.length_append,hfr,yhb,yx2];first|rfl|(simp [bgS,T3.put,bgP,ay,aT,List.length_append,List.length_cons,List.length_nil,hI0,hx,yhx,hfr,hb,yhb,x1,yx1,x2,yx2,Nat.add_mul];done))
     case i20_0=>(first|exact hL0|(rw [←hL0];simp only [reduceIte,hI0,hx,yhx,hfr,hb,yhb,x1,yx1,x2,yx2];done)|(rw [←hL0];simp [hI0,hx,yhx,hfr,hb,yhb,x1,yx1,x2,yx2];done)|(simp [hI0,hx,yhx,hfr,hb,yhb,x1,yx1,x2,yx2] at hL0;simpa using hL0)|(rw [←hL0];simp [*];done))
     all_goals (first|omega|assumption|(simp;omega)|(simp_all;done))
    have yx3:bgB p k0=3:=by unfold bgB at *;omega
    have xi3:((bgB p k0:Nat):Int)=3:=by omega
    refine cf 3000 ?_;dsimp only;refine awD (scT 0 9 (scq [18,20,23,24] .nil)) [0,0,0,0,0,0,0,0,0,0,0,0,0] ?_;simp only [F5,zT,seval,yx3];repeat refine ob ?_
    refine cf 500 ?_;dsimp only;refine awN ?_;simp only [F5,zT,seval];repeat refine ob ?_
    repeat refine ob ?_
    refine ⟨_,bE H [2,3,4,5,6,17,18] [502,503,511,1063,2063,3063] (onR hn (fun x h=>by (try simp only [aj]);repeat rw [if_neg (by omega)]) _),e.claims.length-(k0+1),by omega,k0+1,(bgS e.agrs p k0 T),?a23_s1,?a23_s2,?a23_s3,?a23_nx,by omega,rfl,?i23_0,?i23_1,?i23_2,?i23_3,?st23⟩;case st23=>(simp only [F5,zT,seval,bgS,T3.put,bgP,ay,aT,List.length_append,hfr,yhb,yx3];first|rfl|(simp [bgS,T3.put,bgP,ay,aT,List.length_append,List.length_cons,List.length_nil,hI0,hx,yhx,hfr,hb,yhb,x1,yx1,x2,yx3,xi3,Nat.add_mul];done))
    case i23_0=>(first|exact hL0|(rw [←hL0];simp only [reduceIte,hI0,hx,yhx,hfr,hb,yhb,x1,yx1,x2,yx3,xi3];done)|(rw [←hL0];simp [hI0,hx,yhx,hfr,hb,yhb,x1,yx1,x2,yx3,xi3];done)|(simp [hI0,hx,yhx,hfr,hb,yhb,x1,yx1,x2,yx3,xi3] at hL0;simpa using hL0)|(rw [←hL0];simp [*];done))
    all_goals (first|omega|assumption|(simp;omega)|(simp_all;done))
   have yhb:¬p.c/2^k0%2=1:=by omega
   have w4:=qS k0 (by omega);have w5:=vp p.c k0 hp.2.2 (by omega);refine awN ?_;simp only [F5,zT,seval,hb,w4,w5];repeat refine ob ?_
   refine awF ?_;refine awK ?_;simp only [F5,zT,seval];by_cases x1:((bgB p k0:Nat):Int)=1
   ·have yx1:bgB p k0=1:=by omega
    refine cf 1000 ?_;dsimp only;refine awD (scT 0 9 (scq [18,20,23,24] .nil)) [0,0,0,0,0,0,0,0,0,0,0,0,0] ?_;simp only [F5,zT,seval,yx1];repeat refine ob ?_
    refine cf 500 ?_;dsimp only;refine awN ?_;simp only [F5,zT,seval];repeat refine ob ?_
    repeat refine ob ?_
    refine ⟨_,bE H [2,3,4,5,6,17,18] [502,503,511,1063,2063,3063] (onR hn (fun x h=>by (try simp only [aj]);repeat rw [if_neg (by omega)]) _),e.claims.length-(k0+1),by omega,k0+1,(bgS e.agrs p k0 T),?a27_s1,?a27_s2,?a27_s3,?a27_nx,by omega,rfl,?i27_0,?i27_1,?i27_2,?i27_3,?st27⟩;case st27=>(simp only [F5,zT,seval,bgS,T3.put,bgP,ay,aT,List.length_append,hfr,yhb,yx1];first|rfl|(simp [bgS,T3.put,bgP,ay,aT,List.length_append,List.length_cons,List.length_nil,hI0,hx,yhx,hfr,hb,yhb,x1,yx1,Nat.add_mul];done))
    case i27_0=>(first|exact hL0|(rw [←hL0];simp only [reduceIte,hI0,hx,yhx,hfr,hb,yhb,x1,yx1];done)|(rw [←hL0];simp [hI0,hx,yhx,hfr,hb,yhb,x1,yx1];done)|(simp [hI0,hx,yhx,hfr,hb,yhb,x1,yx1] at hL0;simpa using hL0)|(rw [←hL0];simp [*];done))
    all_goals (first|omega|assumption|(simp;omega)|(simp_all;done))
   have yx1:¬bgB p k0=1:=by omega
   by_cases x2:((bgB p k0:Nat):Int)=2
   ·have yx2:bgB p k0=2:=by omega
    refine cf 2000 ?_;dsimp only;refine awD (scT 0 9 (scq [18,20,23,24] .nil)) [0,0,0,0,0,0,0,0,0,0,0,0,0] ?_;simp only [F5,zT,seval,yx2];repeat refine ob ?_
    refine cf 500 ?_;dsimp only;refine awN ?_;simp only [F5,zT,seval];repeat refine ob ?_
    repeat refine ob ?_
    refine ⟨_,bE H [2,3,4,5,6,17,18] [502,503,511,1063,2063,3063] (onR hn (fun x h=>by (try simp only [aj]);repeat rw [if_neg (by omega)]) _),e.claims.length-(k0+1),by omega,k0+1,(bgS e.agrs p k0 T),?a30_s1,?a30_s2,?a30_s3,?a30_nx,by omega,rfl,?i30_0,?i30_1,?i30_2,?i30_3,?st30⟩;case st30=>(simp only [F5,zT,seval,bgS,T3.put,bgP,ay,aT,List.length_append,hfr,yhb,yx2];first|rfl|(simp [bgS,T3.put,bgP,ay,aT,List.length_append,List.length_cons,List.length_nil,hI0,hx,yhx,hfr,hb,yhb,x1,yx1,x2,yx2,Nat.add_mul];done))
    case i30_0=>(first|exact hL0|(rw [←hL0];simp only [reduceIte,hI0,hx,yhx,hfr,hb,yhb,x1,yx1,x2,yx2];done)|(rw [←hL0];simp [hI0,hx,yhx,hfr,hb,yhb,x1,yx1,x2,yx2];done)|(simp [hI0,hx,yhx,hfr,hb,yhb,x1,yx1,x2,yx2] at hL0;simpa using hL0)|(rw [←hL0];simp [*];done))
    all_goals (first|omega|assumption|(simp;omega)|(simp_all;done))
   have yx3:bgB p k0=3:=by unfold bgB at *;omega
   have xi3:((bgB p k0:Nat):Int)=3:=by omega
   refine cf 3000 ?_;dsimp only;refine awD (scT 0 9 (scq [18,20,23,24] .nil)) [0,0,0,0,0,0,0,0,0,0,0,0,0] ?_;simp only [F5,zT,seval,yx3];repeat refine ob ?_
   refine cf 500 ?_;dsimp only;refine awN ?_;simp only [F5,zT,seval];repeat refine ob ?_
   repeat refine ob ?_
   refine ⟨_,bE H [2,3,4,5,6,17,18] [502,503,511,1063,2063,3063] (onR hn (fun x h=>by (try simp only [aj]);repeat rw [if_neg (by omega)]) _),e.claims.length-(k0+1),by omega,k0+1,(bgS e.agrs p k0 T),?a33_s1,?a33_s2,?a33_s3,?a33_nx,by omega,rfl,?i33_0,?i33_1,?i33_2,?i33_3,?st33⟩;case st33=>(simp only [F5,zT,seval,bgS,T3.put,bgP,ay,aT,List.length_append,hfr,yhb,yx3];first|rfl|(simp [bgS,T3.put,bgP,ay,aT,List.length_append,List.length_cons,List.length_nil,hI0,hx,yhx,hfr,hb,yhb,x1,yx1,x2,yx3,xi3,Nat.add_mul];done))
   case i33_0=>(first|exact hL0|(rw [←hL0];simp only [reduceIte,hI0,hx,yhx,hfr,hb,yhb,x1,yx1,x2,yx3,xi3];done)|(rw [←hL0];simp [hI0,hx,yhx,hfr,hb,yhb,x1,yx1,x2,yx3,xi3];done)|(simp [hI0,hx,yhx,hfr,hb,yhb,x1,yx1,x2,yx3,xi3] at hL0;simpa using hL0)|(rw [←hL0];simp [*];done))
   all_goals (first|omega|assumption|(simp;omega)|(simp_all;done))
  refine awR [] [0,0,0,60,60,60,60,0] ?_;simp only [F5,zT,seval,F9,hx,hH,ab bA,ab bg];repeat refine ob ?_
  refine ⟨_,(nP e k0 hna he),rfl,?_⟩;try simp only [aq,F5,zT,seval,hfr]
  repeat refine ob ?_
  refine awT ?_;refine awQ ?_;simp only [F5,zT,seval];refine awN ?_;simp only [F5,zT,seval];repeat refine ob ?_
  repeat refine ob ?_
  refine ⟨_,bE H [2,3,4,5,6,17,18] [502,503,511,1063,2063,3063] (onR hn (fun x h=>by (try simp only [aj]);repeat rw [if_neg (by omega)]) _),e.claims.length-(k0+1),by omega,k0+1,(bgS e.agrs p k0 T),?a36_s1,?a36_s2,?a36_s3,?a36_nx,by omega,rfl,?i36_0,?i36_1,?i36_2,?i36_3,?st36⟩;case st36=>(simp only [F5,zT,seval,bgS,yhx,hfr];first|rfl|(simp [bgS,T3.put,bgP,ay,aT,List.length_append,List.length_cons,List.length_nil,hI0,hx,yhx,hfr,Nat.add_mul];done))
  case i36_0=>(first|exact hL0|(rw [←hL0];simp only [reduceIte,hI0,hx,yhx,hfr];done)|(rw [←hL0];simp [hI0,hx,yhx,hfr];done)|(simp [hI0,hx,yhx,hfr] at hL0;simpa using hL0)|(rw [←hL0];simp [*];done))
  all_goals (first|omega|assumption|(simp;omega)|(simp_all;done))
 obtain rfl:k0=e.claims.length:=by omega
 have hI0:¬(e.claims.length:Int)<(e.claims.length:Int):=by omega
 rw [List.drop_length] at hL0;simp only [bgL] at hL0;refine awN ?_;simp only [F5,zT,seval,cN3,hI0];repeat refine ob ?_
 refine awF ?_;refine awQ ?_;simp only [F5,zT,seval];by_cases hr:((p.a/8%4:Nat):Int)=0
 ·have yhr:p.a/8%4=0:=by omega
  have w8:IntKind.u16.wrap ((p.a:Int).tdiv 8)=((p.a/8:Nat):Int):=by have:=kk (p.a/8) (by omega);rw [←this];norm_cast
  have w9:((p.a/8:Nat):Int).tmod 4=((p.a/8%4:Nat):Int):=by norm_cast
  refine awN ?_;simp only [F5,zT,seval,yhr,w8,w9];repeat refine ob ?_
  refine awT ?_;have wa:IntKind.u16.wrap ((p.a:Int).tdiv 32)=((p.a/32:Nat):Int):=by have:=kk (p.a/32) (by omega);rw [←this];norm_cast
  have wb:((p.a/32:Nat):Int).tmod 3=((p.a/32%3:Nat):Int):=by norm_cast
  refine awN ?_;simp only [F5,zT,seval,wa,wb];repeat refine ob ?_
  by_cases z0:((p.a/32%3:Nat):Int)=0
  ·have yz0:p.a/32%3=0:=by omega
   have wc:IntKind.u16.wrap ((p.a:Int).tdiv 96)=((p.a/96:Nat):Int):=by have:=kk (p.a/96) (by omega);rw [←this];norm_cast
   have wd:((p.a/96:Nat):Int).tmod 7=((p.a/96%7:Nat):Int):=by norm_cast
   refine awD (scT 0 11 (scq [22,25,26,28,31,32] .nil)) [0,0,0,0,0,0,0,0,0,0,0,0,0,0,0,0,0] ?_;simp only [F5,zT,seval,yz0,wc,wd];repeat refine ob ?_
   refine ⟨_,(fG ((p.a/96%7:Nat):Int) (by omega) (by omega)),rfl,?_⟩;try simp only [aq,F5,zT,seval,cS]
   repeat refine ob ?_
   refine ao 590 511 0 (by rfl) (by rfl) (by rfl) (by decide) (by show (5:Nat)≠0;decide) (by show (1:Nat)≠0;decide) rfl ?_;refine ao 2063 511 1 (by rfl) (by rfl) (by rfl) (by decide) (by show (5:Nat)≠0;decide) (by show (1:Nat)≠0;decide) rfl ?_;refine ao 3063 511 2 (by rfl) (by rfl) (by rfl) (by decide) (by show (5:Nat)≠0;decide) (by show (1:Nat)≠0;decide) rfl ?_;refine dL (t:=5) (by rfl) (by rfl) (by decide) (by rfl) ?_;simp only [F5,zT,seval];refine awN ?_;simp only [F5,zT,seval];repeat refine ob ?_
   refine aE H [4] [598] (onR hn (fun x h=>by (try simp only [aj]);repeat rw [if_neg (by omega)]) _) ?_;simp only [F5,zT,seval];refine awX ?_;simp only [F5,zT,seval];refine ⟨_,rfl,?_⟩;congr 2;simp [bgN,←hL0,bgT,T3.put,aU,aV,aY,ej,bo,aT,yhr,yz0]
  have yz0:¬p.a/32%3=0:=by omega
  by_cases z1:((p.a/32%3:Nat):Int)=1
  ·have yz1:p.a/32%3=1:=by omega
   have wc:IntKind.u16.wrap ((p.a:Int).tdiv 96)=((p.a/96:Nat):Int):=by have:=kk (p.a/96) (by omega);rw [←this];norm_cast
   have wd:((p.a/96:Nat):Int).tmod 7=((p.a/96%7:Nat):Int):=by norm_cast
   refine awD (scT 0 11 (scq [22,25,26,28,31,32] .nil)) [0,0,0,0,0,0,0,0,0,0,0,0,0,0,0,0,0] ?_;simp only [F5,zT,seval,yz1,wc,wd];repeat refine ob ?_
   refine ⟨_,(fG ((p.a/96%7:Nat):Int) (by omega) (by omega)),rfl,?_⟩;try simp only [aq,F5,zT,seval,cS]
   repeat refine ob ?_
   refine ao 1063 511 0 (by rfl) (by rfl) (by rfl) (by decide) (by show (5:Nat)≠0;decide) (by show (1:Nat)≠0;decide) rfl ?_;refine ao 590 511 1 (by rfl) (by rfl) (by rfl) (by decide) (by show (5:Nat)≠0;decide) (by show (1:Nat)≠0;decide) rfl ?_;refine ao 3063 511 2 (by rfl) (by rfl) (by rfl) (by decide) (by show (5:Nat)≠0;decide) (by show (1:Nat)≠0;decide) rfl ?_;refine dL (t:=5) (by rfl) (by rfl) (by decide) (by rfl) ?_;simp only [F5,zT,seval];refine awN ?_;simp only [F5,zT,seval];repeat refine ob ?_
   refine aE H [4] [598] (onR hn (fun x h=>by (try simp only [aj]);repeat rw [if_neg (by omega)]) _) ?_;simp only [F5,zT,seval];refine awX ?_;simp only [F5,zT,seval];refine ⟨_,rfl,?_⟩;congr 2;simp [bgN,←hL0,bgT,T3.put,aU,aV,aY,ej,bo,aT,yhr,yz1]
  have yz2:p.a/32%3=2:=by omega
  have zi2:((p.a/32%3:Nat):Int)=2:=by omega
  have wc:IntKind.u16.wrap ((p.a:Int).tdiv 96)=((p.a/96:Nat):Int):=by have:=kk (p.a/96) (by omega);rw [←this];norm_cast
  have wd:((p.a/96:Nat):Int).tmod 7=((p.a/96%7:Nat):Int):=by norm_cast
  refine awD (scT 0 11 (scq [22,25,26,28,31,32] .nil)) [0,0,0,0,0,0,0,0,0,0,0,0,0,0,0,0,0] ?_;simp only [F5,zT,seval,yz2,wc,wd];repeat refine ob ?_
  refine ⟨_,(fG ((p.a/96%7:Nat):Int) (by omega) (by omega)),rfl,?_⟩;try simp only [aq,F5,zT,seval,cS]
  repeat refine ob ?_
  refine ao 1063 511 0 (by rfl) (by rfl) (by rfl) (by decide) (by show (5:Nat)≠0;decide) (by show (1:Nat)≠0;decide) rfl ?_;refine ao 2063 511 1 (by rfl) (by rfl) (by rfl) (by decide) (by show (5:Nat)≠0;decide) (by show (1:Nat)≠0;decide) rfl ?_;refine ao 590 511 2 (by rfl) (by rfl) (by rfl) (by decide) (by show (5:Nat)≠0;decide) (by show (1:Nat)≠0;decide) rfl ?_;refine dL (t:=5) (by rfl) (by rfl) (by decide) (by rfl) ?_;simp only [F5,zT,seval];refine awN ?_;simp only [F5,zT,seval];repeat refine ob ?_
  refine aE H [4] [598] (onR hn (fun x h=>by (try simp only [aj]);repeat rw [if_neg (by omega)]) _) ?_;simp only [F5,zT,seval];refine awX ?_;simp only [F5,zT,seval];refine ⟨_,rfl,?_⟩;congr 2;simp [bgN,←hL0,bgT,T3.put,aU,aV,aY,ej,bo,aT,yhr,yz2]
 have yhr:¬p.a/8%4=0:=by omega
 have w8:IntKind.u16.wrap ((p.a:Int).tdiv 8)=((p.a/8:Nat):Int):=by have:=kk (p.a/8) (by omega);rw [←this];norm_cast
 have w9:((p.a/8:Nat):Int).tmod 4=((p.a/8%4:Nat):Int):=by norm_cast
 refine awN ?_;simp only [F5,zT,seval,hr,w8,w9];repeat refine ob ?_
 refine awF ?_;refine awK ?_;simp only [F5,zT,seval];refine ao 1063 511 0 (by rfl) (by rfl) (by rfl) (by decide) (by show (5:Nat)≠0;decide) (by show (1:Nat)≠0;decide) rfl ?_;refine ao 2063 511 1 (by rfl) (by rfl) (by rfl) (by decide) (by show (5:Nat)≠0;decide) (by show (1:Nat)≠0;decide) rfl ?_;refine ao 3063 511 2 (by rfl) (by rfl) (by rfl) (by decide) (by show (5:Nat)≠0;decide) (by show (1:Nat)≠0;decide) rfl ?_;refine dL (t:=5) (by rfl) (by rfl) (by decide) (by rfl) ?_;simp only [F5,zT,seval];refine awN ?_;simp only [F5,zT,seval];repeat refine ob ?_
 refine aE H [4] [598] (onR hn (fun x h=>by (try simp only [aj]);repeat rw [if_neg (by omega)]) _) ?_;simp only [F5,zT,seval];refine awX ?_;simp only [F5,zT,seval];refine ⟨_,rfl,?_⟩;congr 2;simp [bgN,←hL0,bgT,aU,aY,ej,bo,yhr]
end Go.Proofs.YtcgpghifhehlhaaGreatDoor
