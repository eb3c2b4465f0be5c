/- Plain: the slopes of what an estate pays; they sum up to 1; between kinks what is paid is linear. No walk. -/
import Derived.Test.YtokmkopihhnggaaGreatDoorFewM
import Derived.Test.YtokmkopihhnggaaGreatDoorWf6M
set_option linter.unusedVariables false
set_option linter.unusedSimpArgs false
namespace Go.Proofs.YtokmkopihhnggaaGreatDoor
open Go Go.RowKit
def cO (l:List WT) (m rate:Rat) (R:WR):WR:=dU l (aG l m).1 rate R
def fr:List WT->Rat->Rat->Int->Rat
 |[],_,_,_=>0
 |t::l,m,r,i=>if m<av t then r/av t*wAt i t else fr l (m-av t) r i
theorem lw (m r:Rat) (R:WR):cO [] m r R=R:=by simp [cO,aG,dU]
theorem jH (t:WT) (l:List WT) (m r:Rat) (R:WR):cO (t::l) m r R=if m<av t then eK (r/av t) t R else cO l (m-av t) r R:=by
 unfold cO;by_cases h:m<av t
 ·simp only [aG,h,if_true];unfold dU;rw [if_pos (by simp)];rfl
 simp only [aG,h,if_false];unfold dU;simp only [List.length_cons,Nat.add_lt_add_iff_right,List.getD_cons_succ]
theorem gN (l:List WT) (m r:Rat) (R:WR):(cO l m r R).cl.length=R.cl.length:=pF _ _ _ _
theorem i7 (i:Int) (hi:i= -1∨0<=i):∀(l:List WT) (m r:Rat) (R:WR),(∀t∈l,wIn R.cl.length t)->(cO l m r R).get i=R.get i+fr l m r i
 |[],m,r,R,_=>by rw [lw,fr];grind
 |t::l,m,r,R,h=>by
  rw [jH,fr];split
  ·rw [ma _ i hi t R (h t (by simp))]
  exact i7 i hi l (m-av t) r R fun x hx=>h x (by simp [hx])
theorem lz:∀(l:List WT) (m r:Rat) (R:WR),0<=m->wNN l->(∀t∈l,wIn R.cl.length t)->(cO l m r R).all=R.all+if m<co l then r else 0
 |[],m,r,R,hm,_,_=>by
  have h1:¬m<co []:=by rw [co];grind
  rw [lw,if_neg h1];grind
 |t::l,m,r,R,hm,hn,h=>by
  have hc:=mc l fun x hx=>hn x (by simp [hx])
  have hs:=iX t (hn t (by simp));rw [jH,co];split
  ·rename_i h1;rw [vJ _ t R (h t (by simp)),dn (by grind),if_pos (by grind)]
  rename_i h1;rw [lz l (m-av t) r R (by grind) (fun x hx=>hn x (by simp [hx])) fun x hx=>h x (by simp [hx])];by_cases h2:m<av t+co l
  ·rw [if_pos h2,if_pos (by grind)]
  rw [if_neg h2,if_neg (by grind)]
theorem GA {a b:Rat} (ha:0<=a) (hb:0<b):0<=a/b:=by
 rw [Rat.div_def];have h2:=Rat.inv_pos.2 hb;exact Rat.mul_nonneg ha (by grind)
theorem pU (i:Int):∀(l:List WT) (m r:Rat),0<=m->0<=r->wNN l->0<=fr l m r i
 |[],_,_,_,_,_=>by simp [fr]
 |t::l,m,r,hm,hr,hn=>by
  rw [fr];split
  ·exact Rat.mul_nonneg (GA hr (by grind)) (lp i t (hn t (by simp)))
  exact pU i l (m-av t) r (by grind) hr fun x hx=>hn x (by simp [hx])
theorem lA (i:Int):∀(l:List WT) (m r:Rat),(∀t∈l,wAt i t=0)->fr l m r i=0
 |[],_,_,_=>rfl
 |t::l,m,r,h=>by
  rw [fr,h t (by simp),lA i l _ r fun x hx=>h x (by simp [hx])];split<;>grind
theorem pV (i:Int):∀(l:List WT) (m r:Rat),0<=m->wNN l->cX l m i=eR i l->fr l m r i=0
 |[],_,_,_,_,_=>rfl
 |t::l,m,r,hm,hn,h=>by
  have ha:=lp i t (hn t (by simp));have hs:=tL i l fun x hx=>hn x (by simp [hx])
  rw [cX,eR] at h;rw [fr];split
  ·rename_i h1;rw [if_pos h1] at h;have hp:0<av t:=by grind
   have h2:m/av t*wAt i t*av t=(wAt i t+eR i l)*av t:=by rw [h]
   have h3:m/av t*wAt i t*av t=m*wAt i t:=by
    have:=dn (m:=m) hp;calc m/av t*wAt i t*av t=(m/av t*av t)*wAt i t:=by grind
     _=m*wAt i t:=by rw [this]
   have h4:=Rat.mul_nonneg hs (show 0<=av t by grind);have h5:(av t-m)*wAt i t<=0:=by grind
   have h6:wAt i t=0:=by
    apply Classical.byContradiction;intro hne;have h7:0<wAt i t:=by grind
    have h8:0<(av t-m)*wAt i t:=Rat.mul_pos (by grind) h7;grind
   rw [h6];grind
  rename_i h1;rw [if_neg h1] at h;exact pV i l (m-av t) r (by grind) (fun x hx=>hn x (by simp [hx])) (by grind)
abbrev a8 (l:List WT) (m:Rat):Prop:=(aG l m).1<l.length
def cu (l:List WT) (m:Rat):Rat:=av (l.getD (aG l m).1 [])-(aG l m).2
def fv:List WT->Rat->Rat
 |[],_=>0
 |t::l,m=>if m<av t then av t-m else fv l (m-av t)
theorem cV (t:WT) (l:List WT) (m:Rat):a8 (t::l) m↔m<av t∨a8 l (m-av t):=by
 unfold a8;by_cases h:m<av t
 ·simp [aG,h]
 simp [aG,h]
theorem r6:∀(l:List WT) (m:Rat),0<=m->wNN l->(a8 l m↔m<co l)
 |[],m,hm,_=>by
  have h1:¬m<co []:=by rw [co];grind
  simp [a8,aG,h1]
 |t::l,m,hm,hn=>by
  have hc:=mc l fun x hx=>hn x (by simp [hx])
  rw [cV,co];by_cases h:m<av t
  ·simp only [h,true_or,true_iff];grind
  rw [r6 l (m-av t) (by grind) fun x hx=>hn x (by simp [hx])];constructor
  ·rintro (h1|h1)
   ·exact absurd h1 h
   grind
  intro h1;exact .inr (by grind)
theorem i8:∀(l:List WT) (m:Rat),a8 l m->cu l m=fv l m
 |[],m,h=>absurd h (by simp [a8,aG])
 |t::l,m,h=>by
  by_cases h1:m<av t
  ·simp [cu,fv,aG,h1]
  have h2:a8 l (m-av t):=by
   rcases (cV t l m).1 h with h|h
   ·exact absurd h h1
   exact h
  have h3:=i8 l (m-av t) h2;simp only [cu,fv,aG,h1,if_false,List.getD_cons_succ] at h3 ⊢;exact h3
theorem iz:∀(l:List WT) (m:Rat),a8 l m->0<fv l m
 |[],m,h=>absurd h (by simp [a8,aG])
 |t::l,m,h=>by
  rw [fv];split
  ·grind
  rename_i h1;refine iz l _ ?_;rcases (cV t l m).1 h with h|h
  ·exact absurd h h1
  exact h
theorem zt (i:Int):∀(t:WT),(∀p∈t,0<=p.2)->wAt i t<=av t
 |[],_=>by simp [wAt,av]
 |p::t,h=>by
  have h1:=zt i t fun x hx=>h x (by simp [hx])
  have h2:=h p (by simp);rw [wAt,av];split<;>grind
theorem nM (i:Int):∀(l:List WT),wNN l->cX l 0 i=0
 |[],_=>rfl
 |t::l,h=>by
  rw [cX];split
  ·rw [Rat.div_def];grind
  rename_i h1;have h2:=iX t (h t (by simp));have h3:=zt i t (h t (by simp));have h4:=lp i t (h t (by simp));have h5:=nM i l fun x hx=>h x (by simp [hx])
  have h6:av t=0:=by grind
  rw [h6,show (0:Rat)-0=0 by grind,h5];grind
theorem r7 (i:Int):∀(l:List WT) (m h:Rat),0<=m->wNN l->0<=h->(a8 l m->h<=fv l m)->cX l (m+h) i=cX l m i+h*fr l m 1 i
 |[],m,h,_,_,_,_=>by simp only [cX,fr];grind
 |t::l,m,h,hm,hn,hh,hg=>by
  rw [cX,cX,fr];by_cases h1:m<av t
  ·have h2:=hg ((cV t l m).2 (.inl h1));rw [fv,if_pos h1] at h2;have hp:0<av t:=by grind
   rw [if_pos h1,if_pos h1];by_cases h3:m+h<av t
   ·rw [if_pos h3,Rat.div_def,Rat.div_def,Rat.div_def];grind
   have h4:m+h=av t:=by grind
   have h5:=nM i l fun x hx=>hn x (by simp [hx])
   have h6:=dn (m:=(1:Rat)) hp;rw [if_neg h3,h4,show av t-av t=0 by grind,h5];rw [Rat.div_def] at h6 ⊢;rw [Rat.div_def];have h7:m*(av t)⁻¹*wAt i t+h*(1*(av t)⁻¹*wAt i t)=(m+h)*(av t)⁻¹*wAt i t:=by grind
   rw [h7,h4];have h8:av t*(av t)⁻¹=1:=by grind
   rw [h8];grind
  have h3:¬m+h<av t:=by grind
  rw [if_neg h1,if_neg h1,if_neg h3];have h4:=r7 i l (m-av t) h (by grind) (fun x hx=>hn x (by simp [hx])) hh fun ho=>by
   have h5:=hg ((cV t l m).2 (.inr ho));rw [fv,if_neg h1] at h5;exact h5
  rw [show m+h-av t=m-av t+h by grind,h4];grind
theorem nN:∀(l:List WT) (m n:Rat),m<=n->(aG l m).1<=(aG l n).1
 |[],_,_,_=>Nat.le_refl _
 |t::l,m,n,h=>by
  by_cases h1:m<av t
  ·simp [aG,h1]
  have h2:¬n<av t:=by grind
  have h3:=nN l (m-av t) (n-av t) (by grind);simp only [aG,h1,h2,if_false];omega
theorem pW:∀(l:List WT) (m n:Rat),a8 l m->m+fv l m<=n->(aG l m).1<(aG l n).1
 |[],m,_,h,_=>absurd h (by simp [a8,aG])
 |t::l,m,n,h,hn=>by
  rw [fv] at hn;by_cases h1:m<av t
  ·rw [if_pos h1] at hn;have h2:¬n<av t:=by grind
   simp [aG,h1,h2]
  rw [if_neg h1] at hn;have h3:a8 l (m-av t):=by
   rcases (cV t l m).1 h with h|h
   ·exact absurd h h1
   exact h
  have h4:m-av t+fv l (m-av t)<=n-av t:=by grind
  have hp:=iz l _ h3;have h2:¬n<av t:=by grind
  have h5:=pW l (m-av t) (n-av t) h3 h4;simp only [aG,h1,h2,if_false];omega
theorem ml (i:Int):∀(l:List WT) (m r:Rat),¬a8 l m->fr l m r i=0
 |[],_,_,_=>rfl
 |t::l,m,r,h=>by
  rw [cV] at h;have h1:¬m<av t:=fun x=>h (.inl x)
  rw [fr,if_neg h1];exact ml i l _ r fun x=>h (.inr x)
def ba (L:WL) (m:Rat):List Rat:=(cO L.ranks m 1 ⟨List.replicate L.count 0,0⟩).cl
def dJ (g k:List Rat):List bX->WR->WR
 |[],R=>R
 |p::ps,R=>dJ g k ps (cO p.2 (aK g p.1) (aK k p.1) R)
def b9 (L:WL) (m:Rat):WR:=dJ (aW L m) (ba L m) L.pools ⟨cG L.pools (ba L m),0⟩
def eF (g k:List Rat):List bX->Rat->Rat
 |[],out=>out
 |p::ps,out=>eF g k ps (if a8 p.2 (aK g p.1)/\0<aK k p.1 then bC out (cu p.2 (aK g p.1)/aK k p.1) else out)
def bx (L:WL) (m:Rat):Rat:=eF (aW L m) (ba L m) L.pools (cu L.ranks m)
def ii (L:WL) (s:WR):Nat->Rat->Option Rat
 |0,_=>none
 |n+1,m=>if a8 L.ranks m then if (b9 L (m+bx L m)).rv=s.rv/\(b9 L (m+bx L m)).cl=s.cl then ii L s n (m+bx L m) else some (m+bx L m) else none
def nY (l:List WT) (m:Rat):Nat:=l.length-(aG l m).1
def kQ (g:List Rat):List bX->Nat
 |[]=>0
 |p::ps=>nY p.2 (aK g p.1)+kQ g ps
def wMu (L:WL) (m:Rat):Nat:=nY L.ranks m+kQ (aW L m) L.pools
def eZ (L:WL) (m:Rat):Option Rat:=ii L (b9 L m) (wMu L m+1) m
theorem i9 (L:WL) (m:Rat):(ba L m).length=L.count:=by
 unfold ba;rw [gN,List.length_replicate]
theorem jI (g k:List Rat):∀(ps:List bX) (R:WR),(dJ g k ps R).cl.length=R.cl.length
 |[],_=>rfl
 |p::ps,R=>by rw [dJ,jI g k ps,gN]
theorem dO (L:WL) (m:Rat):(b9 L m).cl.length=L.count:=by
 unfold b9;rw [jI,dR,i9]
theorem mX {e:GEst} (m:Rat) (i:Nat):(aW (az e) m).getD i 0=cX (aC e.claims) m i:=by
 have h1:=iy (i:Int) (.inr (by omega)) (aC e.claims) m ⟨List.replicate e.claims.length 0,0⟩ (by simpa using dS e.claims);have h4:¬((i:Int)= -1):=by omega
 unfold WR.get at h1;simp only [h4,if_false,Int.toNat_natCast,ke] at h1;unfold aW az;rw [h1];grind
theorem kh {e:GEst} (m:Rat) (i:Nat):(ba (az e) m).getD i 0=fr (aC e.claims) m 1 i:=by
 have h1:=i7 (i:Int) (.inr (by omega)) (aC e.claims) m 1 ⟨List.replicate e.claims.length 0,0⟩ (by simpa using dS e.claims);have h4:¬((i:Int)= -1):=by omega
 unfold WR.get at h1;simp only [h4,if_false,Int.toNat_natCast,ke] at h1;unfold ba az;rw [h1];grind
theorem iA (e:GEst) (m:Rat):(ba (az e) m).length=e.claims.length:=i9 _ _
theorem pX {e:GEst} {m:Rat} (h:wEst e.claims) (hm:0<=m):rNN (ba (az e) m):=tN fun i=>by
 rw [kh];exact pU _ _ _ _ hm (by decide) (eY h.am)
theorem A8 {e:GEst} {m:Rat} (h:wEst e.claims) (hm:0<=m):jk (ba (az e) m)=if m<cn e.claims then 1 else 0:=by
 have h1:=lz (aC e.claims) m 1 ⟨List.replicate e.claims.length 0,0⟩ hm (eY h.am) (by simpa using dS e.claims);have h2:=i7 (-1) (.inl rfl) (aC e.claims) m 1 ⟨List.replicate e.claims.length 0,0⟩ (by simpa using dS e.claims);rw [lA (-1) (aC e.claims) m 1 fun t ht=>by obtain ⟨r,_,rfl⟩:=gL ht;exact vM _ _ _] at h2;rw [pO h.rk] at h1;unfold WR.all at h1;unfold WR.get at h2;simp only [if_true,rU] at h1 h2;unfold ba az;rw [h2] at h1;grind
theorem r8 {e:GEst} {m h:Rat} (he:wEst e.claims) (hm:0<=m) (hh:0<=h) (hg:a8 (aC e.claims) m->h<=fv (aC e.claims) m) (i:Nat):(aW (az e) (m+h)).getD i 0=(aW (az e) m).getD i 0+h*(ba (az e) m).getD i 0:=by
 rw [mX,mX,kh];exact r7 i _ m h hm (eY he.am) hh hg
theorem pY {g g' k:List Rat} {h:Rat} (hg:∀i:Nat,g'.getD i 0=g.getD i 0+h*k.getD i 0):∀M:List Int,aK g' M=aK g M+h*aK k M
 |[]=>by simp only [aK];grind
 |i::M=>by
  have h1:=pY hg M;rw [aK,aK,aK,hg i.toNat,h1];grind
def wKs (g k:List Rat) (i:Int):List bX->Rat
 |[]=>0
 |p::ps=>fr p.2 (aK g p.1) (aK k p.1) i+wKs g k i ps
theorem fR (g k:List Rat) (i:Int) (hi:i= -1∨0<=i):∀(ps:List bX) (R:WR),(∀p∈ps,∀t∈p.2,wIn R.cl.length t)->(dJ g k ps R).get i=R.get i+wKs g k i ps
 |[],R,_=>by simp only [dJ,wKs];grind
 |p::ps,R,h=>by
  have h1:=fR g k i hi ps (cO p.2 (aK g p.1) (aK k p.1) R) (by rw [gN];exact fun q hq=>h q (by simp [hq]));rw [dJ,h1,i7 i hi _ _ _ _ (h p (by simp)),wKs];grind
theorem xS {cs:List GClaim} {g k:List Rat} (hg:rNN g) (hk:rNN k) (i:Int):∀ps:List bX,(∀p∈ps,pLad cs p)->0<=wKs g k i ps
 |[],_=>by simp [wKs]
 |p::ps,h=>by
  have h1:=xS hg hk i ps fun q hq=>h q (by simp [hq])
  have h2:=pU i p.2 (aK g p.1) (aK k p.1) (iZ hg p.1) (iZ hk p.1) (h p (by simp)).nn;rw [wKs];grind
theorem tO {cs:List GClaim} (g k:List Rat) (i:Nat):∀ps:List bX,(∀p∈ps,pLad cs p)->¬i6 i ps->wKs g k i ps=0
 |[],_,_=>rfl
 |p::ps,h,hn=>by
  have hp:=h p (by simp);rw [wKs,tO g k i ps (fun q hq=>h q (by simp [hq])) fun ⟨q,hq,hi⟩=>hn ⟨q,by simp [hq],hi⟩,
   lA _ _ _ _ fun t ht=>mh _ t fun x hx e=>?_]
  ·grind
  rcases hp.rin t ht x hx with h1|h1
  ·omega
  exact hn ⟨p,by simp,by rw [←e];exact h1⟩
theorem C3 {e:GEst} {m:Rat} (h:eOK e) (i:Nat):(¬i6 i (az e).pools->(b9 (az e) m).cl.getD i 0=(ba (az e) m).getD i 0)/\(i6 i (az e).pools->(b9 (az e) m).cl.getD i 0=wKs (aW (az e) m) (ba (az e) m) i (az e).pools):=by
 have hl:=ig h;have h1:=fR (aW (az e) m) (ba (az e) m) (i:Int) (.inr (by omega)) (az e).pools ⟨cG (az e).pools (ba (az e) m),0⟩ fun p hp=>fk (hl p hp) (by rw [dR,iA])
 have h2:=mW (az e).pools (ba (az e) m) i fun p hp j hj=>((hl p hp).inn j hj).1
 have h4:¬((i:Int)= -1):=by omega
 unfold WR.get at h1;simp only [h4,if_false,Int.toNat_natCast] at h1;unfold b9;refine ⟨fun hn=>?_,fun hn=>?_⟩
 ·rw [h1,h2.1 hn,tO _ _ i _ hl hn];grind
 rw [h1,h2.2 hn];grind
theorem C4 {e:GEst} {m:Rat} (h:eOK e):(b9 (az e) m).rv=wKs (aW (az e) m) (ba (az e) m) (-1) (az e).pools:=by
 have hl:=ig h;have h1:=fR (aW (az e) m) (ba (az e) m) (-1) (.inl rfl) (az e).pools ⟨cG (az e).pools (ba (az e) m),0⟩ fun p hp=>fk (hl p hp) (by rw [dR,iA])
 unfold WR.get at h1;simp only [if_true] at h1;unfold b9;rw [h1];grind
theorem GB {e:GEst} {m:Rat} (h:eOK e) (hm:0<=m):rNN (b9 (az e) m).cl/\0<=(b9 (az e) m).rv:=by
 have hg:=pT h.cl hm;have hk:=pX h.cl hm;refine ⟨tN fun i=>?_,by rw [C4 h];exact xS hg hk _ _ (ig h)⟩;obtain ⟨h1,h2⟩:=C3 (m:=m) h i;by_cases hp:i6 i (az e).pools
 ·rw [h2 hp];exact xS hg hk _ _ (ig h)
 rw [h1 hp];exact oe hk i
theorem r9 {g a k:List Rat} (h:∀i:Nat,g.getD i 0<=a.getD i 0) (hk:∀i:Nat,g.getD i 0=a.getD i 0->k.getD i 0=0):∀M:List Int,aK a M<=aK g M->aK k M=0
 |[],_=>rfl
 |i::M,hM=>by
  have h1:=h i.toNat;have h2:=tK h M;rw [aK,aK] at hM;rw [aK,hk i.toNat (by grind),r9 h hk M (by grind)];grind
theorem EI {cs:List GClaim} (h:∀c∈cs,0<=c.rank/\c.rank<=7) (i:Nat):eR (i:Int) (aC cs)=(cs.map fun c=>qOf c.amount).getD i 0:=by
 have hR:∀(n s:Nat),eR (i:Int) ((List.range' s n).map fun r:Nat=>wRk (r:Int) cs 0)=if i<cs.length/\(s:Int)<=(cs.getD i (⟨0,0,gZ⟩:GClaim)).rank/\(cs.getD i (⟨0,0,gZ⟩:GClaim)).rank<((s+n:Nat):Int) then (cs.map fun c=>qOf c.amount).getD i 0 else 0:=by
  intro n;induction n with
  |zero=>
   intro s;rw [if_neg (by omega)];rfl
  |succ n ih=>
   intro s;rw [List.range'_succ,List.map_cons,eR,ih (s+1)];by_cases hi:i<cs.length
   ·have h1:=xQ (s:Int) cs 0 i hi;rw [Nat.zero_add] at h1;have h2:cs.getD i (⟨0,0,gZ⟩:GClaim)=cs[i]:=by rw [List.getD_eq_getElem?_getD,List.getElem?_eq_getElem hi];rfl
    rw [h1,h2,zq cs i hi];by_cases h3:cs[i].rank=(s:Int)
    ·rw [if_pos h3,if_neg (by omega),if_pos (by omega)];grind
    rw [if_neg h3];by_cases h4:((s+1:Nat):Int)<=cs[i].rank/\cs[i].rank<((s+1+n:Nat):Int)
    ·rw [if_pos ⟨hi,h4⟩,if_pos (by omega)];grind
    rw [if_neg (fun h=>h4 h.2),if_neg (by omega)];grind
   rw [if_neg (fun h=>hi h.1),if_neg (fun h=>hi h.1)];have h1:∀p∈wRk (s:Int) cs 0,p.1≠(i:Int):=fun p hp=>by
    have:=lv (s:Int) cs 0 p hp;omega
   rw [mh _ _ h1];grind
 unfold aC;rw [List.range_eq_range',hR 8 0];by_cases hi:i<cs.length
 ·have h2:cs.getD i (⟨0,0,gZ⟩:GClaim)=cs[i]:=by rw [List.getD_eq_getElem?_getD,List.getElem?_eq_getElem hi];rfl
  have:=h _ (List.getElem_mem hi);rw [h2,if_pos ⟨hi,by omega⟩]
 rw [if_neg (fun h=>hi h.1),jG (by simpa using Nat.le_of_not_lt hi)]
theorem A9 {e:GEst} {m:Rat} (h:eOK e) (hm:0<=m) {p:bX} (hp:p∈(az e).pools) (hc:¬aK (aW (az e) m) p.1<co p.2):aK (ba (az e) m) p.1=0:=by
 have hlad:=ig h p hp;refine r9 (fun i=>(mj h.cl hm i).2) (fun i hi=>?_) p.1 ?_
 ·rw [mX,←EI h.cl.rk i] at hi;rw [kh];exact pV _ _ _ _ hm (eY h.cl.am) hi
 have hM:(-1:Int)∉p.1:=fun hm=>by have:=hlad.inn _ hm;omega
 rw [pS hlad.nd hM p.2 hlad.rin,rW hlad p.1 fun _ h=>h] at hc;have h2:=tL (-1) p.2 hlad.nn;grind
theorem nO {e:GEst} {m:Rat} (h:eOK e) (hm:0<=m):∀(ps:List bX) (R:WR),(∀p∈ps,p∈(az e).pools)->R.cl.length=e.claims.length->(dJ (aW (az e) m) (ba (az e) m) ps R).all=R.all+jF (ba (az e) m) ps
 |[],R,_,_=>by simp only [dJ,jF];grind
 |p::ps,R,hps,hl=>by
  have hp:=ig h p (hps p (by simp));have h1:=nO h hm ps (cO p.2 (aK (aW (az e) m) p.1) (aK (ba (az e) m) p.1) R) (fun q hq=>hps q (by simp [hq])) (by rw [gN];exact hl);have h2:=lz p.2 (aK (aW (az e) m) p.1) (aK (ba (az e) m) p.1) R (iZ (pT h.cl hm) p.1) hp.nn (fk hp hl);have h3:=A9 h hm (hps p (by simp));rw [dJ,h1,h2,jF];split
  ·grind
  rw [h3 ‹_›];grind
theorem EJ {e:GEst} {m:Rat} (h:eOK e) (hm:0<=m):jk (b9 (az e) m).cl+(b9 (az e) m).rv=if m<cn e.claims then 1 else 0:=by
 have hl:=ig h;have h1:=nO h hm (az e).pools ⟨cG (az e).pools (ba (az e) m),0⟩ (fun _ h=>h) (by rw [dR,iA]);have h2:=rZ (az e).pools (ba (az e) m) hl h.ds (iA _ _);unfold WR.all at h1;simp only [h2,A8 h.cl hm] at h1;unfold b9;rw [h1];grind
theorem xT {a b:Rat} (hb:0<b) {s:Rat} (h:s<=a/b):s*b<=a:=by
 have h1:=Rat.mul_le_mul_of_nonneg_right h (show 0<=b by grind);rw [dn hb] at h1;exact h1
theorem se (g k:List Rat):∀(ps:List bX) (out:Rat),eF g k ps out<=out/\∀p∈ps,a8 p.2 (aK g p.1)->0<aK k p.1->eF g k ps out*aK k p.1<=cu p.2 (aK g p.1)
 |[],out=>⟨by rw [eF];grind,by simp⟩
 |p::ps,out=>by
  obtain ⟨h1,h2⟩:=se g k ps (if a8 p.2 (aK g p.1)/\0<aK k p.1 then bC out (cu p.2 (aK g p.1)/aK k p.1) else out);rw [eF];refine ⟨?_,fun q hq ho hr=>?_⟩
  ·refine Rat.le_trans h1 ?_;split
   ·unfold bC;split<;>grind
   grind
  rcases List.mem_cons.1 hq with rfl|hq
  ·refine xT hr (Rat.le_trans h1 ?_);rw [if_pos ⟨ho,hr⟩];unfold bC;split<;>grind
  exact h2 q hq ho hr
theorem div_pos {a b:Rat} (ha:0<a) (hb:0<b):0<a/b:=by
 rw [Rat.div_def];exact Rat.mul_pos ha (Rat.inv_pos.2 hb)
theorem pZ (g k:List Rat):∀(ps:List bX) (out:Rat),0<out->0<eF g k ps out
 |[],out,h=>h
 |p::ps,out,h=>by
  rw [eF];refine pZ g k ps _ ?_;split
  ·rename_i h1;have h0:0<cu p.2 (aK g p.1):=by rw [i8 _ _ h1.1];exact iz _ _ h1.1
   have h2:=div_pos h0 h1.2;unfold bC;split<;>grind
  exact h
theorem mY (g k:List Rat):∀(ps:List bX) (out:Rat),eF g k ps out=out∨∃p∈ps,a8 p.2 (aK g p.1)/\0<aK k p.1/\eF g k ps out=cu p.2 (aK g p.1)/aK k p.1
 |[],out=> .inl rfl
 |p::ps,out=>by
  rw [eF];rcases mY g k ps (if a8 p.2 (aK g p.1)/\0<aK k p.1 then bC out (cu p.2 (aK g p.1)/aK k p.1) else out) with h|⟨q,h1,h2⟩
  ·rw [h];by_cases h1:a8 p.2 (aK g p.1)/\0<aK k p.1
   ·rw [if_pos h1];unfold bC;split
    ·exact .inr ⟨p,by simp,h1.1,h1.2,rfl⟩
    exact .inl rfl
   rw [if_neg h1];exact .inl rfl
  exact .inr ⟨q,by simp [h1],h2⟩
def Il (e:GEst) (m h:Rat):Prop:=(a8 (aC e.claims) m->h<=fv (aC e.claims) m)/\∀p∈(az e).pools,a8 p.2 (aK (aW (az e) m) p.1)->h*aK (ba (az e) m) p.1<=fv p.2 (aK (aW (az e) m) p.1)
theorem xU {e:GEst} {m h:Rat} (he:eOK e) (hm:0<=m) (ho:a8 (aC e.claims) m) (hh:0<=h) (hs:h<=bx (az e) m):Il e m h:=by
 obtain ⟨h1,h2⟩:=se (aW (az e) m) (ba (az e) m) (az e).pools (cu (aC e.claims) m);have hk:=pX he.cl hm;refine ⟨fun _=>?_,fun p hp hpo=>?_⟩
 ·rw [i8 _ _ ho] at h1;exact Rat.le_trans hs (by rw [←i8 _ _ ho] at *;exact h1)
 have h3:=iZ hk p.1;by_cases h4:0<aK (ba (az e) m) p.1
 ·have h5:=h2 p hp hpo h4;rw [i8 _ _ hpo] at h5;have h6:=Rat.mul_le_mul_of_nonneg_right hs h3;exact Rat.le_trans h6 h5
 have h5:aK (ba (az e) m) p.1=0:=by grind
 have h6:=iz _ _ hpo;rw [h5];grind
theorem mm {e:GEst} {m:Rat} (ho:¬a8 (aC e.claims) m):∀M:List Int,aK (ba (az e) m) M=0
 |[]=>rfl
 |i::M=>by
  rw [aK,mm ho M,kh,ml _ _ _ _ ho];grind
theorem p5 {e:GEst} {m:Rat} (ho:a8 (aC e.claims) m):0<bx (az e) m:=by
 refine pZ _ _ _ _ ?_;show 0<cu (aC e.claims) m;rw [i8 _ _ ho];exact iz _ _ ho
theorem sf (l:List WT) {m n:Rat} (h:m<=n):nY l n<=nY l m:=by
 have:=nN l m n h;unfold nY;omega
theorem vT (l:List WT) {m n:Rat} (ho:a8 l m) (h:m+fv l m<=n):nY l n<nY l m:=by
 have:=pW l m n ho h;unfold nY a8 at *
 omega
theorem p6 {g g':List Rat}:∀ps:List bX,(∀p∈ps,aK g p.1<=aK g' p.1)->kQ g' ps<=kQ g ps/\∀p∈ps,nY p.2 (aK g' p.1)<nY p.2 (aK g p.1)->kQ g' ps<kQ g ps
 |[],_=>⟨Nat.le_refl _,by simp⟩
 |p::ps,h=>by
  obtain ⟨h1,h2⟩:=p6 ps fun q hq=>h q (by simp [hq])
  have h3:=sf p.2 (h p (by simp));refine ⟨by rw [kQ,kQ];omega,fun q hq hlt=>?_⟩;rw [kQ,kQ];rcases List.mem_cons.1 hq with rfl|hq
  ·omega
  have:=h2 q hq hlt;omega
theorem zu {e : GEst} {m : Rat} (h : eOK e) (hm : 0 ≤ m) (ho : a8 (aC e.claims) m) : wMu (az e) (m + bx (az e) m) < wMu (az e) m := by
  have hp := p5 (m := m) ho
  have hmn : m ≤ m + bx (az e) m := by grind
  have hl := xU h hm ho (show 0 ≤ bx (az e) m by grind) (by grind)
  have hg := r8 h.cl hm (show 0 ≤ bx (az e) m by grind) hl.1
  have hT := pY hg
  have h1 := sf (az e).ranks hmn
  obtain ⟨h2, h3⟩ := p6 (g := aW (az e) m) (g' := aW (az e) (m + bx (az e) m)) (az e).pools fun p _ => tK (fun i => xR h.cl hm hmn i) p.1
  unfold wMu
  rcases mY (aW (az e) m) (ba (az e) m) (az e).pools (cu (aC e.claims) m) with h4 | ⟨p, k1, k2, k3, k4⟩
  · have h5 : nY (az e).ranks (m + bx (az e) m) < nY (az e).ranks m := vT (aC e.claims) ho (by
      have : bx (az e) m = fv (aC e.claims) m := by rw [← i8 _ _ ho]; exact h4
      rw [this]; grind)
    omega
  have h5 := h3 p k1 (vT p.2 k2 (by
    have h6 : bx (az e) m * aK (ba (az e) m) p.1 = fv p.2 (aK (aW (az e) m) p.1) := by
      rw [← i8 _ _ k2]
      have : bx (az e) m = cu p.2 (aK (aW (az e) m) p.1) / aK (ba (az e) m) p.1 := k4
      rw [this, dn k3]
    rw [hT p.1, h6]; grind))
  omega
def Im (e:GEst) (m d:Rat):Prop:=∀h,0<=h->h<=d->(∀i:Nat,(eQ (az e) (m+h)).cl.getD i 0=(eQ (az e) m).cl.getD i 0+h*(b9 (az e) m).cl.getD i 0)/\(eQ (az e) (m+h)).rv=(eQ (az e) m).rv+h*(b9 (az e) m).rv
structure kinkOf (e:GEst) (m y:Rat):Prop where
 gt:m<y
 le:y<=cn e.claims
 ne:¬((b9 (az e) y).rv=(b9 (az e) m).rv/\(b9 (az e) y).cl=(b9 (az e) m).cl)
 mu:wMu (az e) y<wMu (az e) m
 lin:Im e m (y-m)

end Go.Proofs.YtokmkopihhnggaaGreatDoor
