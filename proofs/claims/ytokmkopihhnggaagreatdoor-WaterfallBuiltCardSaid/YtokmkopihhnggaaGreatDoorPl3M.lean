/- Plain law: a group that is built is valid; its legs are found where they stand, and there only. No walk. -/
import Derived.Test.YtokmkopihhnggaaGreatDoorBl5M
import Derived.Test.YtokmkopihhnggaaGreatDoorRw5M
import Derived.Test.YtokmkopihhnggaaGreatDoorOw3M
import Derived.Test.YtokmkopihhnggaaGreatDoorAbBM
import Derived.Test.YtokmkopihhnggaaGreatDoorGu1M
import Derived.Test.YtokmkopihhnggaaGreatDoorWf6M
import Derived.Test.YtokmkopihhnggaaGreatDoorJfM
import Derived.Deep.DeepCutAuto
import Derived.Deep.RegionHeld3
import Derived.Test.YtokmkopihhnggaaGreatDoorAr1M
import Derived.Test.YtokmkopihhnggaaGreatDoorAbZM
import Derived.Test.YtokmkopihhnggaaGreatDoorPlusM
import Derived.Test.YtokmkopihhnggaaGreatDoorNat16M
import Derived.Test.YtokmkopihhnggaaGreatDoorBkM
import Derived.Test.YtokmkopihhnggaaGreatDoorDrawM
set_option linter.unusedVariables false
set_option maxHeartbeats 4000000
set_option maxRecDepth 100000
set_option linter.unusedSimpArgs false
set_option linter.defProp false
set_option linter.unusedSectionVars false
namespace Go.Proofs.YtokmkopihhnggaaGreatDoor
open Go Go.RowKit Go.Proofs.Tryz
theorem Jg {q:Rat} (h:0<=q):0<=cr q:=by unfold cr dQ;grind
def prP (n:Int) (E:Int->Bool) (p:GPart):Prop:=(p.claim= -1/\p.capped=true∨0<=p.claim/\p.claim<n/\E p.claim=false)/\0<=cr (qOf p.cap)
theorem wV {n : Int} {E : Int → Bool} (hn : 0 ≤ n) : ∀ {l : List GPart}, (∀ p ∈ l, prP n E p) → agT n E l = 0
  | [], _ => rfl
  | p :: l, h => by
    have h2 := wV hn (fun q hq => h q (List.mem_cons_of_mem _ hq))
    obtain ⟨h3, h4⟩ := h p (by simp)
    simp only [agT, h2]
    rw [if_neg (by omega), if_neg (by rintro ⟨a, b⟩; rcases h3 with h3 | h3
                                      · rw [b] at h3; cases h3.2
                                      omega), if_neg (by omega), if_neg (by rintro ⟨a, b⟩; rcases h3 with h3 | h3
                                                                            · exact a h3.1
                                                                            rw [h3.2.2] at b; cases b)]
def Gs (n:Int) (pre:List bP) (a:bP):Prop:=a.length<=24/\(∀t∈a,t.length<=24)/\∀p∈a.flatten,prP n (fun c=>mbE c pre) p
theorem Ew {n:Int} {pre:List bP} {a:bP} (hn:0<=n) (h:Gs n pre a):agS n (fun c=>mbE c pre) a=0:=by
 unfold agS;rw [if_neg (by have:=h.1;omega),if_neg,qx,wV hn h.2.2];intro h1;obtain ⟨t,ht,h2⟩:=List.any_eq_true.1 h1;have:=h.2.1 t ht;simp only [er,decide_eq_true_eq] at h2;omega
def AH (e:GEst):Prop:=∀i (h:i<e.agrs.length),Gs e.claims.length (e.agrs.take i) e.agrs[i]
theorem oN (e:GEst) (h:AH e):∀(l:List bP) (i:Nat),l=e.agrs.drop i->iT e i l=0
 |[],_,_=>rfl
 |a::l,i,hl=>by
  have hi:i<e.agrs.length:=by
   rcases Nat.lt_or_ge i e.agrs.length with h|h
   ·exact h
   rw [List.drop_eq_nil_of_le h] at hl;cases hl
  rw [List.drop_eq_getElem_cons hi] at hl;obtain ⟨rfl,hl'⟩:=List.cons.inj hl;have h0:=Ew (by omega) (h i hi);simp only [iT,h0,ne_eq,not_true_eq_false,if_false];exact oN e h l (i+1) hl'
theorem Ex (c:Int):∀l,frP c l= !mbT c l
 |[]=>rfl
 |p::l=>by
  simp only [frP,mbT,Ex c l];by_cases h:p.claim=c<;>simp [h]
theorem Ey (c:Int):∀a,frT c a= !mbA c a
 |[]=>rfl
 |t::a=>by
  simp only [frT,mbA,Ey c a,Ex c t];cases mbT c t<;>simp
theorem Ez (c:Int):∀l,frA c l= !mbE c l
 |[]=>rfl
 |a::l=>by
  simp only [frA,mbE,Ez c l,Ey c a];cases mbA c a<;>simp
def tOK (Q:GPart->Prop) (T:T3):Prop:=(∀p∈T.a,Q p)/\(∀p∈T.b,Q p)/\∀p∈T.c,Q p
theorem uG {Q:GPart->Prop} (T:T3) (x:Nat) (p:GPart) (h:tOK Q T) (hp:Q p):tOK Q (T.put x p):=by
 unfold T3.put;have key:∀l:List GPart,(∀q∈l,Q q)->∀q∈l++[p],Q q:=fun l hl q hq=>by
  rcases List.mem_append.1 hq with h1|h1
  ·exact hl q h1
  obtain rfl:q=p:=by simpa using h1
  exact hp
 split
 ·exact ⟨key _ h.1,h.2.1,h.2.2⟩
 split
 ·exact ⟨h.1,key _ h.2.1,h.2.2⟩
 exact ⟨h.1,h.2.1,key _ h.2.2⟩
theorem uH {Q:GPart->Prop} (agrs:List bP) (p:N3) (n:Nat) (hQ:∀i,i<n->frA i agrs=true->Q (bgP p i)):∀(l:List GClaim) (i:Nat) (T:T3),i+l.length<=n->tOK Q T->tOK Q (bgL agrs p l i T)
 |[],_,_,_,h=>h
 |_::l,i,T,hl,h=>by
  rw [List.length_cons] at hl;refine uH agrs p n hQ l (i+1) _ (by omega) ?_;unfold bgS;split
  ·exact h
  split
  ·exact uG _ _ _ h (hQ i (by omega) ‹_›)
  exact h
theorem AI (n:Nat):0<=cr (qOf (enc (((n:Nat):Int):Rat))):=by
 rw [cc];exact Jg (by exact_mod_cast Nat.zero_le n)
theorem EA:0<=cr (qOf gZ):=by rw [ml];exact Jg (by grind)
theorem AJ (x:Nat):0<=cr (qOf (enc (eA x))):=by rw [cc];exact Jg (yh x)
theorem Gt (agrs:List bP) (p:N3) (n i:Nat) (hi:i<n) (hf:frA i agrs=true):prP n (fun c=>mbE c agrs) (bgP p i):=by
 rw [Ez] at hf;have hb:mbE (i:Int) agrs=false:=by simpa using hf
 unfold bgP;split
 ·exact ⟨.inr ⟨by simp,by simp;omega,hb⟩,AI _⟩
 exact ⟨.inr ⟨by simp,by simp;omega,hb⟩,EA⟩
theorem EB (e:GEst) (p:N3) (h:e.claims.length<=6):Gs e.claims.length e.agrs (bgN e p):=by
 have h0:=yS e p h;refine ⟨by omega,fun t ht=>by have:=h0.2 t ht;omega,fun q hq=>?_⟩;have h1:tOK (prP e.claims.length (fun c=>mbE c e.agrs)) (bgT p (bgL e.agrs p e.claims 0 ⟨[],[],[]⟩)):=by
  have h2:=uH (Q:=prP e.claims.length (fun c=>mbE c e.agrs)) e.agrs p e.claims.length (fun i hi hf=>Gt e.agrs p _ i hi hf) e.claims 0 ⟨[],[],[]⟩ (by omega) ⟨by simp,by simp,by simp⟩;unfold bgT;split
  ·exact uG _ _ _ h2 ⟨.inl ⟨rfl,rfl⟩,AI _⟩
  exact h2
 obtain ⟨t,ht,hq⟩:=List.mem_flatten.1 hq;simp only [bgN,List.mem_cons,List.not_mem_nil,or_false] at ht;rcases ht with rfl|rfl|rfl
 ·exact h1.1 q hq
 ·exact h1.2.1 q hq
 exact h1.2.2 q hq
def vC (size i:Nat) (c:GClaim):Prop:=c.holder≠(i:Int)/\ -1<=c.holder/\c.holder<(size:Int)/\0<=c.rank/\c.rank<=7/\0<=cr (qOf c.amount)
def vE (size i:Nat) (e:GEst):Prop:=0<=cr (qOf e.cash)/\(∀c∈e.claims,vC size i c)/\AH e
def uI (Pr:Nat->GEst->Prop) (es:List GEst):Prop:=∀i (h:i<es.length),Pr i es[i]
theorem wW {Pr:Nat->GEst->Prop} {es:List GEst} (h:uI Pr es) (j:Nat) (x:GEst) (hx:j<es.length->Pr j x):uI Pr (es.set j x):=fun i hi=>by
 rw [List.getElem_set];split
 ·rename_i hji;subst hji;exact hx (by simpa using hi)
 exact h i (by simpa using hi)
theorem AK (es:List GEst) (j:Nat) (h:j<es.length):es.getD j dr=es[j]:=by
 rw [List.getD_eq_getElem?_getD,List.getElem?_eq_getElem h];rfl
theorem nU {α β:Type} {Pr:β->Prop} (f:β->α->β) (hf:∀b x,Pr b->Pr (f b x)):∀(l:List α) (b:β),Pr b->Pr (l.foldl f b)
 |[],_,h=>h
 |x::l,b,h=>nU f hf l (f b x) (hf b x h)
def vE0 (size i:Nat) (e:GEst):Prop:=0<=cr (qOf e.cash)/\(∀c∈e.claims,vC size i c)/\e.agrs=[]
theorem Cf (size:Nat) (x:N4):vC size (x.a%size) (aD size x):=by
 unfold aD vC;refine ⟨?_,?_,?_,?_,?_,AJ _⟩;all_goals dsimp only
 ·unfold eZ;split<;>omega
 ·unfold eZ;split<;>omega
 ·unfold eZ;split<;>omega
 ·omega
 omega
theorem yX (size:Nat) (es:List GEst) (x:N4) (h:uI (vE0 size) es):uI (vE0 size) (bc size es x):=by
 unfold bc;split
 ·exact h
 refine wW h _ _ fun hj=>?_
 rw [AK _ _ hj];obtain ⟨h1,h2,h3⟩:=h _ hj;refine ⟨h1,fun c hc=>?_,h3⟩;rcases List.mem_append.1 hc with hc|hc
 ·exact h2 c hc
 obtain rfl:c=aD size x:=by simpa using hc
 exact Cf size x
theorem Gu (size i:Nat) (cash:List Nat):vE0 size i (d8 cash i):=by
 refine ⟨?_,by simp [d8],rfl⟩;unfold d8;dsimp only;split
 ·exact AJ _
 exact EA
theorem yY (e:GEst) (a:bP) (h:AH e) (ha:Gs e.claims.length e.agrs a):AH ⟨e.cash,e.claims,e.agrs++[a]⟩:=fun i hi=>by
 have hi':i<e.agrs.length+1:=by simpa using hi
 by_cases hlt:i<e.agrs.length
 ·have h1:=h i hlt;simp only [List.getElem_append_left hlt,List.take_append_of_le_length (Nat.le_of_lt hlt)];exact h1
 obtain rfl:i=e.agrs.length:=by omega
 simp only [List.take_left,List.getElem_concat_length];exact ha
theorem Gv (size:Nat) (es:List GEst) (p:N3) (h:(∀e∈es,okB e)/\uI (vE size) es):(∀e∈iH size es p,okB e)/\uI (vE size) (iH size es p):=by
 refine ⟨mX size es p h.1,?_⟩;unfold iH;split
 ·refine wW h.2 _ _ fun hj=>?_
  rw [AK _ _ hj];obtain ⟨h1,h2,h3⟩:=h.2 _ hj;exact ⟨h1,h2,yY _ _ h3 (EB _ p (h.1 _ (List.getElem_mem hj)).1)⟩
 exact h.2
theorem Jh (n : Nat) (cash : List Nat) (list : List N4) (pools : List N3) : uI (vE (1 + n % 4)) (nT n cash list pools) := by
  unfold nT
  refine (nU (Pr := fun es => (∀ e ∈ es, okB e) ∧ uI (vE (1 + n % 4)) es) _ (Gv _) _ _ ⟨fun e he => ?_, ?_⟩).2
  · have h := mY (Pr := okC) (bc (1 + n % 4)) (cf _) list _ (fun e he => by
      obtain ⟨i, _, rfl⟩ := List.mem_map.1 he
      exact ⟨by simp [d8], rfl⟩) e he
    exact ⟨h.1, by rw [h.2]; simp, by rw [h.2]; simp⟩
  have h := nU (Pr := uI (vE0 (1 + n % 4))) (bc (1 + n % 4)) (yX _) list ((List.range (1 + n % 4)).map (d8 cash)) (fun i hi => by
    have h1 := Gu (1 + n % 4) i cash
    simpa using h1)
  intro i hi
  obtain ⟨h1, h2, h3⟩ := h i hi
  exact ⟨h1, h2, fun k hk => by rw [h3] at hk; simp at hk⟩
theorem lR {size i:Nat} (hs:size<=8):∀{l:List GClaim},(∀c∈l,vC size i c)->bu l=0
 |[],_=>rfl
 |c::l,h=>by
  have h2:=lR hs (fun d hd=>h d (List.mem_cons_of_mem _ hd));obtain ⟨a1,a2,a3,a4,a5,a6⟩:=h c (by simp);simp only [bu,h2];rw [if_neg (by omega),if_neg (by omega),if_neg (by omega)]
theorem wX {size i:Nat} {e:GEst} (hs:size<=8) (h:vE size i e) (hc:e.claims.length<=24) (ha:e.agrs.length<=12):nO e=0:=by
 unfold nO;rw [if_neg (by omega),if_neg (by have:=h.1;omega),lR hs h.2.1];simp only [ne_eq,not_true_eq_false,if_false];exact oN e h.2.2 _ 0 (by simp)


end Go.Proofs.YtokmkopihhnggaaGreatDoor
namespace Go.Proofs.YtokmkopihhnggaaGreatDoor
open Go Go.RowKit Go.ChangeShapes Go.WideShapes Go.ChangeAt Go.Proofs.Tryz
theorem eG:jY prog 57 (rC wO (·<65536)):=by
 intro H enc W fuel cs x h;obtain ⟨n,rfl,hn⟩:=Ca underlying57 H enc W fuel cs x h;exact ⟨n,⟨⟨rfl,rfl⟩,trivial⟩,hn⟩
theorem Tryz.cellsU16:prog.cellsOf 57=1:=by kernel_rfl
theorem Tryz.cellsN4:prog.cellsOf 97=4:=by kernel_rfl
theorem Tryz.cellsN3:prog.cellsOf 98=3:=by kernel_rfl
def Gw (x:N4):Prop:=x.a<65536/\x.b<65536/\x.c<65536/\x.d<65536
def Gx (x:N3):Prop:=x.a<65536/\x.b<65536/\x.c<65536
theorem Cg:jY prog 97 (rC cN4 Gw):=by
 intro H enc W fuel cs x h;obtain ⟨xs,m,_,_,hl,hxs,hf⟩:=DataW.trod_array underlying97 h;rw [Tryz.cellsN4] at hl;simp only [Tryz.cellsU16] at hf;match cs,hl with
 |[c0,c1,c2,c3],_=>
  have h0:=hf 0 (by decide);rw [List.getElem?_eq_getElem (by omega)] at h0;have h1:=hf 1 (by decide);rw [List.getElem?_eq_getElem (by omega)] at h1;have h2:=hf 2 (by decide);rw [List.getElem?_eq_getElem (by omega)] at h2;have h3:=hf 3 (by decide);rw [List.getElem?_eq_getElem (by omega)] at h3;obtain ⟨a0,k0,o0⟩:=eG H enc W _ _ _ h0;obtain ⟨a1,k1,o1⟩:=eG H enc W _ _ _ h1;obtain ⟨a2,k2,o2⟩:=eG H enc W _ _ _ h2;obtain ⟨a3,k3,o3⟩:=eG H enc W _ _ _ h3;replace k0:denVs (gl W) [c0] _:=k0;replace k1:denVs (gl W) [c1] _:=k1;replace k2:denVs (gl W) [c2] _:=k2;replace k3:denVs (gl W) [c3] _:=k3;exact ⟨⟨a0,a1,a2,a3⟩,denVs.append k0 (denVs.append k1 (denVs.append k2 k3)),o0,o1,o2,o3⟩
theorem yZ:jY prog 22 (rC (cSl 4 cN4) (yM Gw)):=wD underlying22 Tryz.cellsN4 (by decide) AE Cg
theorem Ch:jY prog 98 (rC cN3 Gx):=by
 intro H enc W fuel cs x h;obtain ⟨xs,m,_,_,hl,hxs,hf⟩:=DataW.trod_array underlying98 h;rw [Tryz.cellsN3] at hl;simp only [Tryz.cellsU16] at hf;match cs,hl with
 |[c0,c1,c2],_=>
  have h0:=hf 0 (by decide);rw [List.getElem?_eq_getElem (by omega)] at h0;have h1:=hf 1 (by decide);rw [List.getElem?_eq_getElem (by omega)] at h1;have h2:=hf 2 (by decide);rw [List.getElem?_eq_getElem (by omega)] at h2;obtain ⟨a0,k0,o0⟩:=eG H enc W _ _ _ h0;obtain ⟨a1,k1,o1⟩:=eG H enc W _ _ _ h1;obtain ⟨a2,k2,o2⟩:=eG H enc W _ _ _ h2;replace k0:denVs (gl W) [c0] _:=k0;replace k1:denVs (gl W) [c1] _:=k1;replace k2:denVs (gl W) [c2] _:=k2;exact ⟨⟨a0,a1,a2⟩,denVs.append k0 (denVs.append k1 k2),o0,o1,o2⟩
theorem y5:jY prog 23 (rC (cSl 3 cN3) (yM Gx)):=wD underlying23 Tryz.cellsN3 (by decide) uE Ch
end Go.Proofs.YtokmkopihhnggaaGreatDoor
namespace Go.Proofs.YtokmkopihhnggaaGreatDoor
open Go.RowKit Go.Proofs.Tryz


attribute [local go_sem ↓] Go.wp_at_zero Go.wp_at_succ
section
variable {w wr : World} {W : GRat} {n : Nat} {rs : List GRat} {s o : GRat}
end
attribute [local go_sem ↓] Go.wp_at_zero Go.wp_at_succ
end Go.Proofs.YtokmkopihhnggaaGreatDoor
namespace Go.Proofs.YtokmkopihhnggaaGreatDoor
open Go Go.RowKit Go.Proofs.Tryz
theorem Ci {P:Program} {f:FuncId} {args:List A1} {vs:List Value} {w:World} (h:aU P f args (one (.bool true))) (hd:dF (gl w) vs args):
  Calls P f vs.toArray w fun e w'=>e= .returned (.bool true)/\Below w.heap.size w w':=
 (h.2 w (LT w.heap.size) vs (fun _ h=>h) hd).mono fun e w' ⟨v,he,hb,hv⟩=>by
  have:v= .bool true:=hv.1;subst this;exact ⟨he,hb⟩
theorem qK {α:Type} {enc:α->List C} {ok:α->Prop} {W:World} {v:Value} {a:α} {c:C} (o:rC enc ok W (LT W.heap.size) [v] a) (he:enc a=[c]):bw (gl W) v (.one c)/\ok a:=by
 obtain ⟨h,k⟩:=o;rw [he] at h;exact ⟨h.1,k⟩
end Go.Proofs.YtokmkopihhnggaaGreatDoor
namespace Go.Proofs.YtokmkopihhnggaaGreatDoor
open Go Go.RowKit Go.ChangeShapes Go.WideShapes Go.ChangeAt Go.Proofs.Tryz

end Go.Proofs.YtokmkopihhnggaaGreatDoor
namespace Go.Proofs.YtokmkopihhnggaaGreatDoor
open Go Go.RowKit Go.Proofs.Tryz
section
variable {P : Program} {e : En} {k0 : Kx} {N : Nat} {st : St} {a : Act} {w : World} {Q : Exit → St → Prop} {c : Code}
theorem wY {t nm s:Nat} {B:Blk} (hB:st.H nm=some B) (hsz:B.sz≠0) (hs:B.st=s) (htm:st.tm t= .val (.one (.ptr nm s 0))) (hr:Rel e k0 N st a w):Rel e k0 N ⟨up st.tm t (.val (.one (.sp B.cs))),up st.H nm none,st.nx,st.nb⟩ a w:=by
 obtain ⟨σ,h1,h2,h3⟩:=hr.ex;obtain ⟨k1,k2⟩:=h1.drop nm;have hv:=h2 t;rw [htm] at hv;obtain ⟨b,q1,q2,xs,q3,q4⟩:=jt h1 hv hB hs;have hlt:=h1.lt hB (fk q1);refine ⟨⟨σ,k1,fun t'=>?_,h3.trans k2⟩,hr.df,hr.sz⟩;show aZ (kx e (up st.H nm none) st.nx σ w) _ (up st.tm t _ t');by_cases htt:t'=t
 ·subst htt;rw [bO];simp only [aZ,bw,den];refine ⟨b,0,q2,⟨.inr hlt.1,hlt.2,fun nm' B' hB'=>?_⟩,?_⟩
  ·have hB'':up st.H nm none nm'=some B':=hB';by_cases h0:nm'=nm
   ·subst h0;rw [bO] at hB'';cases hB''
   rw [cv _ _ h0] at hB'';intro e1;exact h1.inj nm' nm B' B hB'' hB h0 b e1 (fk q1)
  refine denM.of_vals (eN k2 q4) fun j u hu=>?_
  have hadd:(⟨b,0,none⟩:Addr).add j=⟨b,0+j,none⟩:=by unfold Addr.add;split<;>simp_all
  have:=q3.cells (g:=b) q1 j u hu;rw [hadd] at this;exact this
 rw [cv _ _ htt];exact eB k2 (h2 t')
theorem wZ {t nm s:Nat} {B:Blk} (htm:st.tm t= .val (.one (.ptr nm s 0))) (hB:st.H nm=some B) (hsz:B.sz≠0) (hs:B.st=s) (h:Awp P e k0 N c Q ⟨up st.tm t (.val (.one (.sp B.cs))),up st.H nm none,st.nx,st.nb⟩):Awp P e k0 N c Q st:=ch (fun _ _ hr=>wY hB hsz hs htm hr) h
end
section
variable {P : Program} {e : En} {k0 : Kx} {N : Nat} {st : St} {Q : Exit → St → Prop} {c : Code}
theorem cq {H0:Hp} (hH:∀y B,H0 y=some B->st.H y=some B) (h:Awp P e k0 N c Q ⟨st.tm,H0,st.nx,st.nb⟩):Awp P e k0 N c Q st:=
 ch (fun _ _ hr=>ij (k0:=k0) st.tm H0 (fun _=> .inl rfl) hH hr) h
end
noncomputable def cQ (q:Rat):List C:=ai (enc q)
theorem bV (q:Rat):(cQ q).length=3:=rfl
theorem aq (q:Rat):al (cQ q)=true:=BW _
noncomputable def cWP (p:WP):List C:= .lit (.int .i64 p.1)::ai (enc p.2)
theorem pg (p:WP):(cWP p).length=4:=rfl
theorem bN (p:WP):al (cWP p)=true:=rfl
noncomputable def cWT (t:WT):List C:= .sh 4 t.length (ar cWP t)::ai (enc (au t))
theorem lu (t:WT):(cWT t).length=4:=rfl
theorem az (t:WT):al (cWT t)=true:=by simp [cWT,ai,al,aw,ab bN]
noncomputable def dv (p:ci):List C:=[.sh 1 p.1.length (ar cI p.1),.sh 4 p.2.length (ar cWT p.2)]
theorem lv (p:ci):(dv p).length=2:=rfl
theorem ax (p:ci):al (dv p)=true:=by simp [dv,al,aw,ab bm,ab az]
noncomputable def ck (L:WL):List C:= .lit (.int .i64 (L.count:Int)):: .sh 4 L.ranks.length (ar cWT L.ranks):: .sh 2 L.pools.length (ar dv L.pools)::ai (enc L.total)
def tcs (A B:List C) (x:C) (s:GRat):List C:=A++(x::(ai s++B))
section
variable (A B : List C) (x y : C) (s s' : GRat)
theorem uJ:(tcs A B x s).length=A.length+(4+B.length):=by simp [tcs,ai];omega
theorem Ko:(tcs A B x s).drop A.length=x::(ai s++B):=by simp [tcs]
theorem Kp:(tcs A B x s).drop (A.length+1)=ai s++B:=by rw [←List.drop_drop,Ko];rfl
theorem AM:(tcs A B x s)[A.length]? =some x:=by simp [tcs]
theorem EC:spl (tcs A B x s) A.length [y]=tcs A B y s:=by
 unfold tcs;exact mS A [x] (ai s++B) [y] rfl
theorem ED:spl (tcs A B x s) (A.length+1) (ai s')=tcs A B x s':=by
 have h:=mS (A++[x]) (ai s) B (ai s') rfl;simp only [List.append_assoc,List.length_append,List.length_cons,List.length_nil,List.cons_append,List.nil_append] at h;exact h
end
theorem jF (n:Nat):dO n [C.lit (.bool false),C.lit (.string aA),C.lit (.string aA)]=ar cQ (List.replicate n 0):=by
 induction n with
 |zero=>rfl
 |succ n ih=>
  rw [List.replicate_succ,bh,←ih,lj];unfold cQ;rw [←gG];rfl
theorem br:ai (enc 0)=[.lit (.bool false),.lit (.string aA),.lit (.string aA)]:=by rw [←gG];rfl
theorem Ji (r:GRat) (h1:r.num.size<=500000000000) (h2:r.den.size<=500000000000):aU prog 78 [.agg (ai r)] (.val (.agg (ai (enc (qOf r))))):=
 bf (b8 func78 (by decide) (by kernel_rfl)) [aE r] (aE (enc (qOf r))) fun w=>cu r w h1 h2
theorem AO (p:Rat) (m:Nat) (hp:qB m p) (hm:m<=100000000000):aU prog 78 [.agg (ai (enc p))] (.val (.agg (ai (enc p)))):=by
 have h:=Ji (enc p) (by have:=(dj hp).1;omega) (by have:=(dj hp).2;omega);rwa [cc] at h
theorem Kq (q:Rat):aU prog 86 [.agg (ai (enc q))] (one (.string (aj q.den))):=
 bf (b8 func86 (by decide) (by kernel_rfl)) [aE (enc q)] (.string (aj q.den)) fun w=>ig q w
theorem Hk (a b:ByteArray) (ha:a.size<=500000000000) (hb:b.size<=500000000000):aU prog 85 [.one (.lit (.string a)),.one (.lit (.string b))] (one (.string (aj (ah a*ah b)))):=
 bf (b8 func85 (by decide) (by kernel_rfl)) [.string a,.string b] (.string (aj (ah a*ah b))) fun w=>dE a b w ha hb
theorem Hl (s:ByteArray) (hs:s.size<=400000000000):aU prog 134 [.one (.lit (.string s))] (one (.string (aj (ah s)))):=
 bf (b8 func134 (by decide) (by kernel_rfl)) [.string s] (.string (aj (ah s))) fun w=>(bW s w (by unfold maxLen;omega)).mono fun e w' ⟨h1,h2⟩=>⟨h1,h2▸Below.refl _ _⟩
theorem EE (neg:Bool) (a b:ByteArray) (ha:a.size<=400000000000) (hb:b.size<=400000000000) (hd:0<ah b):aU prog 88 [.one (.lit (.bool neg)),.one (.lit (.string a)),.one (.lit (.string b))] (.val (.agg (ai (enc (mkRat (sg neg (ah a)) (ah b)))))):=
 bf (b8 func88 (by decide) (by kernel_rfl)) [.bool neg,.string a,.string b] (aE (enc (mkRat (sg neg (ah a)) (ah b)))) fun w=>eM neg a b w ha hb hd
theorem tg (p q:Rat) (m n:Nat) (hp:qB m p) (hq:qB n q) (hm:m<=100000000000) (hn:n<=100000000000):aU prog 31 [.agg (ai (enc p)),.agg (ai (enc q))] (.val (.agg (ai (enc (p+q))))):=by
 have h:=FZ (enc p) (enc q) m n (dj hp) (dj hq) hm hn hp.pos hq.pos;rwa [cc,cc] at h
theorem AP (p q:Rat) (m n:Nat) (hp:qB m p) (hq:qB n q) (hm:m<=100000000000) (hn:n<=100000000000):aU prog 39 [.agg (ai (enc p)),.agg (ai (enc q))] (.val (.agg (ai (enc (p-q))))):=by
 have h:=Ln (enc p) (enc q) m n (dj hp) (dj hq) hm hn hp.pos hq.pos;rwa [cc,cc] at h
theorem Kr (p q:Rat) (m n:Nat) (hp:qB m p) (hq:qB n q) (hm:m<=100000000000) (hn:n<=100000000000):aU prog 38 [.agg (ai (enc p)),.agg (ai (enc q))] (.val (.agg (ai (enc (p*q))))):=by
 have h:=Lo (enc p) (enc q) m n (dj hp) (dj hq) hm hn hp.pos hq.pos;rwa [cc,cc] at h
theorem EF (n:Nat):(aj n={data:= #[]})↔n=0:=⟨fun h=>mF.1 (by rw [h];rfl),fun h=>by subst h;exact ia⟩
theorem EG (z:Int):mkRat z 0=0:=by simp [mkRat]
theorem Hm (p q:Rat):mkRat (sg (bi p !=bi q) (p.num.natAbs*q.den)) (p.den*q.num.natAbs)=p/q:=by
 by_cases h:q=0
 ·subst h;rw [Rat.div_def,Rat.inv_zero,Rat.mul_zero];simp [EG]
 exact (zI h).symm
theorem Jj (q:Rat):q.num.natAbs=0↔q=0:=by simp
def F34:=And.intro zS (And.intro cG (And.intro iy (d7)))
theorem F35:type_of%F34:=F34
theorem Jk (neg:Bool) (a b:ByteArray) (ha:a.size<=400000000000) (hb:b.size<=400000000000):aU prog 211 [.one (.lit (.bool neg)),.one (.lit (.string a)),.one (.lit (.string b))] (.tup [.agg (ai (enc (mkRat (sg neg (ah a)) (ah b)))),.one (.lit (.bool (decide (ah b≠0))))]):=by
 refine aT func211 rfl (by decide) (N:=16) rfl (by simp) (R:=[.cell 6 32,.tmp 7]) rfl fun en k0=>?_
 refine awN ?_;simp only [F35,seval];by_cases h0:ah b=0
 ·skip;have hx:aj (ah b)={data:= #[]}:=(EF _).2 h0;refine awN ?_;simp only [F35,seval];refine ⟨_,(Hl b hb),rfl,?_⟩;try simp only [ak,F35,seval,hx]
  refine awT ?_;refine awN ?_;simp only [F35,seval];refine awX ?_;simp only [F35,seval];rw [h0,EG,←gG];simp [ai,gZ,aA]
 skip;have hx:¬aj (ah b)={data:= #[]}:=fun h=>h0 ((EF _).1 h)
 refine awN ?_;simp only [F35,seval];refine ⟨_,(Hl b hb),rfl,?_⟩;try simp only [ak,F35,seval,hx]
 refine awF ?_;refine awK ?_;simp only [F35,seval];refine awN ?_;simp only [F35,seval,ai];refine ⟨_,(EE neg a b ha hb (Nat.pos_of_ne_zero h0)),rfl,?_⟩;try simp only [ak,F35,seval,ai]
 refine awX ?_;simp only [F35,seval];simp [h0]
def F36:=And.intro zS (And.intro Lk (And.intro IQ (And.intro cG (And.intro rY (And.intro IR (And.intro J8 (d7)))))))
theorem F37:type_of%F36:=F36
theorem Gy (p q:Rat) (m n:Nat) (hp:qB m p) (hq:qB n q) (hm:m<=100000000000) (hn:n<=100000000000):aU prog 173 [.agg (ai (enc p)),.agg (ai (enc q))] (.tup [.agg (ai (enc (p/q))),.one (.lit (.bool (decide (q≠0))))]):=by
 have s1:(aj p.num.natAbs).size<=m:=NB.size hp.1;have s2:(aj q.num.natAbs).size<=n:=NB.size hq.1;have s3:(aj p.den).size<=m:=NB.size hp.2;have s4:(aj q.den).size<=n:=NB.size hq.2;have nx:(aj (p.num.natAbs*q.den)).size<=m+n:=NB.size (NB.mul hp.1 hq.2);have ny:(aj (p.den*q.num.natAbs)).size<=m+n:=NB.size (NB.mul hp.2 hq.1);have hMk:=Jk (bi p !=bi q) (aj (p.num.natAbs*q.den)) (aj (p.den*q.num.natAbs)) (by omega) (by omega);rw [aH,aH,Hm] at hMk;have hd0:decide (p.den*q.num.natAbs≠0)=decide (q≠0):=by
  have h1:=p.den_pos;have h2:=Jj q;by_cases h3:q=0
  ·simp [h3]
  have h4:q.num.natAbs≠0:=fun h=>h3 (h2.1 h)
  have h5:p.den*q.num.natAbs≠0:=Nat.mul_ne_zero (by omega) h4;simp [h3,h5]
 rw [hd0] at hMk;have hMk2:aU prog 211 [.one (.lit (.bool (!(enc p).neg==(enc q).neg))),.one (.lit (.string (aj (p.num.natAbs*q.den)))),.one (.lit (.string (aj (p.den*q.num.natAbs))))] (.tup [.agg (ai (enc (p/q))),.one (.lit (.bool (decide (q≠0))))]):=hMk;simp only [ai] at hMk2;refine aT func173 rfl (by decide) (N:=28) rfl (by simp) (R:=[.cell 4 32,.tmp 5]) rfl fun en k0=>?_
 refine awN ?_;simp only [F37,seval,ai];refine awD (scq [1,5,2,6,8,10] .nil) [0,0,0,0,0,0] ?_;simp only [F37,seval];refine ⟨_,(AO p m hp (by omega)),rfl,?_⟩;try simp only [ak,F37,seval,ai]
 refine ⟨_,(AO q n hq (by omega)),rfl,?_⟩;try simp only [ak,F37,seval,ai]
 refine awD (scT 0 8 (scq [21,25,27,16,18,22,28,30,33,35,36,39] .nil)) [0,0,0,0,0,0,0,0,0,0,0,0,0,0,0,0,0,0,0,0] ?_;simp only [F37,seval];refine ⟨_,(Kq q),rfl,?_⟩;try simp only [ak,F37,seval]
 refine ⟨_,(Hk (aj p.num.natAbs) (aj q.den) (by omega) (by omega)),rfl,?_⟩;try simp only [ak,F37,seval,aH]
 refine ⟨_,(Kq p),rfl,?_⟩;try simp only [ak,F37,seval]
 refine ⟨_,(Hk (aj p.den) (aj q.num.natAbs) (by omega) (by omega)),rfl,?_⟩;try simp only [ak,F37,seval,aH]
 refine ⟨_,hMk2,rfl,?_⟩;try simp only [ak,F37,seval]
 refine awX ?_;(first|(simp only [F37,seval];done)|(simp only [F37,seval,ai];first|(simp [];done)))
theorem y6:aE (enc 0)= .agg #[.bool false,.string {data:= #[]},.string {data:= #[]}]:=by
 rw [←gG];rfl
theorem Cj (a b:GRat) (h:a.num.size=0) (w:World):Calls prog 223 #[aE a,aE b] w fun e w'=>e= .returned (aE (enc 0))/\Below w.heap.size w w':=by
 have hz:a.num={data:= #[]}:=ByteArray.ext (Array.eq_empty_of_size_eq_zero h);rw [y6];unfold aE;rw [hz];clear h hz;go_enter func223,ntmps223
 go_wp2
 go_returns
 exact ⟨rfl,(((Below.refl _ _).alloc (Nat.le_refl _) _).alloc (by simp) _).alloc (by simp;omega) _⟩
theorem Ck (a b:GRat) (ha:¬a.num.size=0) (h:b.num.size=0) (w:World):Calls prog 223 #[aE a,aE b] w fun e w'=>e= .returned (aE (enc 0))/\Below w.heap.size w w':=by
 have hz:b.num={data:= #[]}:=ByteArray.ext (Array.eq_empty_of_size_eq_zero h);have hne:=dN ha;rw [y6];unfold aE;rw [hz];clear h hz ha;go_enter func223,ntmps223
 go_wp2
 go_returns
 exact ⟨rfl,(((Below.refl _ _).alloc (Nat.le_refl _) _).alloc (by simp) _).alloc (by simp;omega) _⟩
theorem EH (a b:GRat) (h:a.num.size=0) (w:World):Calls prog 222 #[aE a,aE b] w fun e w'=>e= .returned (aE (enc 0))/\Below w.heap.size w w':=by
 have hz:a.num={data:= #[]}:=ByteArray.ext (Array.eq_empty_of_size_eq_zero h);rw [y6];unfold aE;rw [hz];clear h hz;go_enter func222,ntmps222
 go_wp2
 go_returns
 exact ⟨rfl,(((Below.refl _ _).alloc (Nat.le_refl _) _).alloc (by simp) _).alloc (by simp;omega) _⟩
attribute [local go_sem ↓] Go.wp_at_zero Go.wp_at_succ
theorem RN.below {w w':World} {u:Value} {n:Nat} (h:RNat w u n) (hb:Below w.heap.size w w'):RNat w' u n:=(aY aV).below h hb hb.size
theorem Cl (p q:Rat) (m n:Nat) (w:World) (hp:qB m p) (hq:qB n q) (hm:m<=100000000000) (hn:n<=100000000000) (hp0:p≠0) (hq0:q≠0):
  Calls prog 223 #[aE (enc p),aE (enc q)] w fun e w'=>e= .returned (aE (enc (p*q)))/\Below w.heap.size w w':=by
 have hne1:=dN (fun h=>hp0 ((cg p).1 h));have hne2:=dN (fun h=>hq0 ((cg q).1 h));have es1:=ib hp;have es2:=ib hq;have H1:=hid (fun w=>By (enc p) w (by omega));have H2:=hid (fun w=>By (enc q) w (by omega));have H3:=hid (fun w=>iN (enc p).num w (by omega));have H4:=hid (fun w=>iN (enc q).num w (by omega));simp only [k6,k7] at H1 H2 H3 H4;have N1:NB m p.num.natAbs:=hp.1;have N2:NB m p.den:=hp.2;have N3:NB n q.num.natAbs:=hq.1;have N4:NB n q.den:=hq.2;have hd1:=p.den_pos;have hd2:=q.den_pos;have hq1:0<q.num.natAbs:=Nat.pos_of_ne_zero fun h=>hq0 ((Jj q).1 h)
 have T1:=hid (fun (w:World) (u v:Value)=>lW (w:=w) (u:=u) (v:=v) N1 N3 (by omega) (by omega));have T2:=hid (fun (w:World) (u v:Value)=>lW (w:=w) (u:=u) (v:=v) N2 N4 (by omega) (by omega));have R:=hid (fun (w:World) (u v:Value)=>eL (bi p !=bi q) u v (p.num.natAbs*q.num.natAbs) (p.den*q.den) (m+n) w (N1.mul N3) (N2.mul N4) (by omega) (Nat.mul_pos hd1 hd2));rw [←zH] at R;rw [show bi p=(enc p).neg from rfl,show bi q=(enc q).neg from rfl] at R;obtain ⟨X,hX⟩:∃X,X=p.num.natAbs*q.num.natAbs:=⟨_,rfl⟩;obtain ⟨D,hD⟩:∃X,X=p.den*q.den:=⟨_,rfl⟩;rw [←hX] at T1 R;rw [←hD] at T2 R;generalize enc (p*q)=c at *
 generalize enc p=a at *
 generalize enc q=b at *
 clear hX hD N1 N2 N3 N4 hp hq hp0 hq0 es1 es2 hd1 hd2 hq1;unfold aE at H1 H2 R;unfold aE;have st0:=(BK.push (BK.push (BK.push (BK.nil w) 32 [.bool a.neg,.string a.num,.string a.den] (b:=w.heap.size) (by simp)) 32 [.bool b.neg,.string b.num,.string b.den] (b:=w.heap.size+1) (by simp)) 32 [.bool false,.string {data:= #[]},.string {data:= #[]}] (b:=w.heap.size+1+1) (by simp));obtain ⟨xc,xf,xl,xg⟩:=BK.cell st0 2 rfl;have x0:=xc 0 _ rfl;have x1:=xc 1 _ rfl;have x2:=xc 2 _ rfl;clear xc;obtain ⟨yc,yf,yl,yg⟩:=BK.cell st0 1 rfl;have y0:=yc 0 _ rfl;have y1:=yc 1 _ rfl;have y2:=yc 2 _ rfl;clear yc;go_enter func223,ntmps223
 go_wp2_with fail
 refine jV (by kernel_rfl) [(0,true),(1,true),(2,true),(3,true),(4,true),(5,true),(6,true),(8,true),(9,true),(12,true),(14,true),(7,false),(10,false),(11,false),(13,false),(15,false),(16,false),(17,false),(18,false)] (fun i=>decide (i<18)) (by kernel_rfl) (fun _ _ d _ _ h=>by cases d<;>exact h) ?_;refine b9 (o:=?o0_3_1) (v:=?v0_3_1) (a':=?aa0_3_1) ?hi0_3_1 (Or.inl ⟨?hw0_3_1,?hy0_3_1⟩) ?ha0_3_1 ?rest0_3_1;case hi0_3_1=>(simp [go_sem];rfl)
 case hw0_3_1=>rfl
 case hy0_3_1=>(intro w0 hF0;clear hF0;first|(go_simp;done)|(go_simp;with_reducible rfl))
 case ha0_3_1=>(go_simp;rfl)
 refine b9 (o:=?o1_3_1) (v:=?v1_3_1) (a':=?aa1_3_1) ?hi1_3_1 (Or.inl ⟨?hw1_3_1,?hy1_3_1⟩) ?ha1_3_1 ?rest1_3_1;case hi1_3_1=>(simp [go_sem];rfl)
 case hw1_3_1=>rfl
 case hy1_3_1=>(intro w0 hF0;have hR0:=fun p h=>FL.cell (p:=p) hF0 h;first|(go_simp;done)|(go_simp;with_reducible rfl))
 case ha1_3_1=>(go_simp;rfl)
 refine b9 (o:=?o2_3_1) (v:=?v2_3_1) (a':=?aa2_3_1) ?hi2_3_1 (Or.inl ⟨?hw2_3_1,?hy2_3_1⟩) ?ha2_3_1 ?rest2_3_1;case hi2_3_1=>(simp [go_sem];rfl)
 case hw2_3_1=>rfl
 case hy2_3_1=>(intro w0 hF0;clear hF0;first|(go_simp;done)|(go_simp;with_reducible rfl))
 case ha2_3_1=>(go_simp;rfl)
 refine b9 (o:=?o3_3_1) (v:=?v3_3_1) (a':=?aa3_3_1) ?hi3_3_1 (Or.inl ⟨?hw3_3_1,?hy3_3_1⟩) ?ha3_3_1 ?rest3_3_1;case hi3_3_1=>(simp [go_sem];rfl)
 case hw3_3_1=>rfl
 case hy3_3_1=>(intro w0 hF0;have hR0:=fun p h=>FL.cell (p:=p) hF0 h;first|(go_simp;done)|(go_simp;with_reducible rfl))
 case ha3_3_1=>(go_simp;rfl)
 refine b9 (o:=?o4_3_1) (v:=?v4_3_1) (a':=?aa4_3_1) ?hi4_3_1 (Or.inl ⟨?hw4_3_1,?hy4_3_1⟩) ?ha4_3_1 ?rest4_3_1;case hi4_3_1=>(simp [go_sem];rfl)
 case hw4_3_1=>rfl
 case hy4_3_1=>(intro w0 hF0;clear hF0;first|(go_simp;done)|(go_simp;with_reducible rfl))
 case ha4_3_1=>(go_simp;rfl)
 refine b9 (o:=?o5_3_1) (v:=?v5_3_1) (a':=?aa5_3_1) ?hi5_3_1 (Or.inl ⟨?hw5_3_1,?hy5_3_1⟩) ?ha5_3_1 ?rest5_3_1;case hi5_3_1=>(simp [go_sem];rfl)
 case hw5_3_1=>rfl
 case hy5_3_1=>(intro w0 hF0;clear hF0;first|(go_simp;done)|(go_simp;with_reducible rfl))
 case ha5_3_1=>(go_simp;rfl)
 refine b9 (o:=?o6_3_1) (v:=?v6_3_1) (a':=?aa6_3_1) ?hi6_3_1 (Or.inl ⟨?hw6_3_1,?hy6_3_1⟩) ?ha6_3_1 ?rest6_3_1;case hi6_3_1=>(simp [go_sem];rfl)
 case hw6_3_1=>rfl
 case hy6_3_1=>(intro w0 hF0;have hR0:=fun p h=>FL.cell (p:=p) hF0 h;first|(go_simp;done)|(go_simp;with_reducible rfl))
 case ha6_3_1=>(go_simp;rfl)
 refine b9 (o:=?o8_3_1) (v:=?v8_3_1) (a':=?aa8_3_1) ?hi8_3_1 (Or.inl ⟨?hw8_3_1,?hy8_3_1⟩) ?ha8_3_1 ?rest8_3_1;case hi8_3_1=>(simp [go_sem];rfl)
 case hw8_3_1=>rfl
 case hy8_3_1=>(intro w0 hF0;clear hF0;first|(go_simp;done)|(go_simp;with_reducible rfl))
 case ha8_3_1=>(go_simp;rfl)
 refine b9 (o:=?o9_3_1) (v:=?v9_3_1) (a':=?aa9_3_1) ?hi9_3_1 (Or.inl ⟨?hw9_3_1,?hy9_3_1⟩) ?ha9_3_1 ?rest9_3_1;case hi9_3_1=>(simp [go_sem];rfl)
 case hw9_3_1=>rfl
 case hy9_3_1=>(intro w0 hF0;have hR0:=fun p h=>FL.cell (p:=p) hF0 h;first|(go_simp;done)|(go_simp;with_reducible rfl))
 case ha9_3_1=>(go_simp;rfl)
 refine b9 (o:=?o12_3_1) (v:=?v12_3_1) (a':=?aa12_3_1) ?hi12_3_1 (Or.inl ⟨?hw12_3_1,?hy12_3_1⟩) ?ha12_3_1 ?rest12_3_1;case hi12_3_1=>(simp [go_sem];rfl)
 case hw12_3_1=>rfl
 case hy12_3_1=>(intro w0 hF0;have hR0:=fun p h=>FL.cell (p:=p) hF0 h;first|(go_simp;done)|(go_simp;with_reducible rfl))
 case ha12_3_1=>(go_simp;rfl)
 refine b9 (o:=?o14_3_1) (v:=?v14_3_1) (a':=?aa14_3_1) ?hi14_3_1 (Or.inl ⟨?hw14_3_1,?hy14_3_1⟩) ?ha14_3_1 ?rest14_3_1;case hi14_3_1=>(simp [go_sem];rfl)
 case hw14_3_1=>rfl
 case hy14_3_1=>(intro w0 hF0;have hR0:=fun p h=>FL.cell (p:=p) hF0 h;first|(go_simp;done)|(go_simp;with_reducible rfl))
 case ha14_3_1=>(go_simp;rfl)
 refine ep (o:=?o7_3_1) ?hi7_3_1 ?hw7_3_1 (by rfl) (fun K hK=>?rest7_3_1);case hi7_3_1=>(simp [go_sem];rfl)
 case hw7_3_1=>rfl
 go_simp
 refine Calls.mono (H3.out _) ?_;rintro e w1_ ⟨ua,rfl,ua1,hb1_⟩;have st1_:=BK.next (BK.drew st0) hb1_;clear x0 x1 x2 xf xl xg y0 y1 y2 yf yl yg;obtain ⟨xc,xf,xl,xg⟩:=BK.cell st1_ 2 rfl;have x0:=xc 0 _ rfl;have x1:=xc 1 _ rfl;have x2:=xc 2 _ rfl;clear xc;obtain ⟨yc,yf,yl,yg⟩:=BK.cell st1_ 1 rfl;have y0:=yc 0 _ rfl;have y1:=yc 1 _ rfl;have y2:=yc 2 _ rfl;clear yc;go_simp
 refine hK _ _ (FL.of_below hb1_) ?_;clear hK K;refine ep (o:=?o10_3_1) ?hi10_3_1 ?hw10_3_1 (by rfl) (fun K hK=>?rest10_3_1);case hi10_3_1=>(simp [go_sem];rfl)
 case hw10_3_1=>rfl
 go_simp
 refine Calls.mono (H4.out _) ?_;rintro e w2_ ⟨ub,rfl,ub1,hb2_⟩;have st2_:=BK.next st1_ hb2_;clear x0 x1 x2 xf xl xg y0 y1 y2 yf yl yg;obtain ⟨xc,xf,xl,xg⟩:=BK.cell st2_ 2 rfl;have x0:=xc 0 _ rfl;have x1:=xc 1 _ rfl;have x2:=xc 2 _ rfl;clear xc;obtain ⟨yc,yf,yl,yg⟩:=BK.cell st2_ 1 rfl;have y0:=yc 0 _ rfl;have y1:=yc 1 _ rfl;have y2:=yc 2 _ rfl;clear yc;replace ua1:=RN.below ua1 hb2_;go_simp
 refine hK _ _ (FL.of_below hb2_) ?_;clear hK K;refine ep (o:=?o11_3_1) ?hi11_3_1 ?hw11_3_1 (by rfl) (fun K hK=>?rest11_3_1);case hi11_3_1=>(simp [go_sem];rfl)
 case hw11_3_1=>rfl
 go_simp
 refine Calls.mono (T1.out _ _ _ ua1 ub1) ?_;rintro e w3_ ⟨tx,rfl,tx1,hb3_⟩;have st3_:=BK.next st2_ hb3_;clear x0 x1 x2 xf xl xg y0 y1 y2 yf yl yg;obtain ⟨xc,xf,xl,xg⟩:=BK.cell st3_ 2 rfl;have x0:=xc 0 _ rfl;have x1:=xc 1 _ rfl;have x2:=xc 2 _ rfl;clear xc;obtain ⟨yc,yf,yl,yg⟩:=BK.cell st3_ 1 rfl;have y0:=yc 0 _ rfl;have y1:=yc 1 _ rfl;have y2:=yc 2 _ rfl;clear yc;replace ua1:=RN.below ua1 hb3_;replace ub1:=RN.below ub1 hb3_;go_simp
 refine hK _ _ (FL.of_below hb3_) ?_;clear hK K;refine ep (o:=?o13_3_1) ?hi13_3_1 ?hw13_3_1 (by rfl) (fun K hK=>?rest13_3_1);case hi13_3_1=>(simp [go_sem];rfl)
 case hw13_3_1=>rfl
 go_simp
 refine Calls.mono (H1.out _) ?_;rintro e w4_ ⟨da,rfl,da1,hb4_⟩;have st4_:=BK.next st3_ hb4_;clear x0 x1 x2 xf xl xg y0 y1 y2 yf yl yg;obtain ⟨xc,xf,xl,xg⟩:=BK.cell st4_ 2 rfl;have x0:=xc 0 _ rfl;have x1:=xc 1 _ rfl;have x2:=xc 2 _ rfl;clear xc;obtain ⟨yc,yf,yl,yg⟩:=BK.cell st4_ 1 rfl;have y0:=yc 0 _ rfl;have y1:=yc 1 _ rfl;have y2:=yc 2 _ rfl;clear yc;replace tx1:=RN.below tx1 hb4_;go_simp
 refine hK _ _ (FL.of_below hb4_) ?_;clear hK K;refine ep (o:=?o15_3_1) ?hi15_3_1 ?hw15_3_1 (by rfl) (fun K hK=>?rest15_3_1);case hi15_3_1=>(simp [go_sem];rfl)
 case hw15_3_1=>rfl
 go_simp
 refine Calls.mono (H2.out _) ?_;rintro e w5_ ⟨db,rfl,db1,hb5_⟩;have st5_:=BK.next st4_ hb5_;clear x0 x1 x2 xf xl xg y0 y1 y2 yf yl yg;obtain ⟨xc,xf,xl,xg⟩:=BK.cell st5_ 2 rfl;have x0:=xc 0 _ rfl;have x1:=xc 1 _ rfl;have x2:=xc 2 _ rfl;clear xc;obtain ⟨yc,yf,yl,yg⟩:=BK.cell st5_ 1 rfl;have y0:=yc 0 _ rfl;have y1:=yc 1 _ rfl;have y2:=yc 2 _ rfl;clear yc;replace tx1:=RN.below tx1 hb5_;replace da1:=RN.below da1 hb5_;go_simp
 refine hK _ _ (FL.of_below hb5_) ?_;clear hK K;refine ep (o:=?o16_3_1) ?hi16_3_1 ?hw16_3_1 (by rfl) (fun K hK=>?rest16_3_1);case hi16_3_1=>(simp [go_sem];rfl)
 case hw16_3_1=>rfl
 go_simp
 refine Calls.mono (T2.out _ _ _ da1 db1) ?_;rintro e w6_ ⟨td,rfl,td1,hb6_⟩;have st6_:=BK.next st5_ hb6_;clear x0 x1 x2 xf xl xg y0 y1 y2 yf yl yg;obtain ⟨xc,xf,xl,xg⟩:=BK.cell st6_ 2 rfl;have x0:=xc 0 _ rfl;have x1:=xc 1 _ rfl;have x2:=xc 2 _ rfl;clear xc;obtain ⟨yc,yf,yl,yg⟩:=BK.cell st6_ 1 rfl;have y0:=yc 0 _ rfl;have y1:=yc 1 _ rfl;have y2:=yc 2 _ rfl;clear yc;replace tx1:=RN.below tx1 hb6_;replace da1:=RN.below da1 hb6_;replace db1:=RN.below db1 hb6_;go_simp
 refine hK _ _ (FL.of_below hb6_) ?_;clear hK K;refine ep (o:=?o17_3_1) ?hi17_3_1 ?hw17_3_1 (by rfl) (fun K hK=>?rest17_3_1);case hi17_3_1=>(simp [go_sem];rfl)
 case hw17_3_1=>rfl
 go_simp
 refine Calls.mono (R.out _ _ _ tx1 td1) ?_;rintro e w7_ ⟨rfl,hb7_⟩;have st7_:=BK.next st6_ hb7_;clear x0 x1 x2 xf xl xg y0 y1 y2 yf yl yg;obtain ⟨zc,zf,zl,zg⟩:=BK.cell st7_ 0 rfl;have z0:=zc 0 _ rfl;have z1:=zc 1 _ rfl;have z2:=zc 2 _ rfl;clear zc;replace tx1:=RN.below tx1 hb7_;replace td1:=RN.below td1 hb7_;go_simp
 refine hK _ _ (FL.of_below hb7_) ?_;clear hK K;refine vM 18 (fun j hj=>by simp;omega) ?_;simp only [List.drop_succ_cons,List.drop_zero];have st8_:=BK.put3 st7_ 0 rfl 0 (.bool c.neg) (.string c.num) (.string c.den);go_wp2
 refine Ev (.agg #[.bool c.neg,.string c.num,.string c.den]) st8_ 0 rfl (fun W_ c_=>by have c0_:=c_ 0 _ rfl;have c1_:=c_ 1 _ rfl;have c2_:=c_ 2 _ rfl;simp [results,Tryz.results223,go_sem,c0_,c1_,c2_]) rfl ⟨rfl,st8_.1⟩
theorem EI (p q:Rat) (m n:Nat) (w:World) (hp:qB m p) (hq:qB n q) (hm:m<=100000000000) (hn:n<=100000000000) (hp0:p≠0) (hq0:q≠0):
  Calls prog 222 #[aE (enc p),aE (enc q)] w fun e w'=>e= .returned (aE (enc (p/q)))/\Below w.heap.size w w':=by
 have hne1:=dN (fun h=>hp0 ((cg p).1 h));have hne2:=dN (fun h=>hq0 ((cg q).1 h));have es1:=ib hp;have es2:=ib hq;have H1:=hid (fun w=>By (enc p) w (by omega));have H2:=hid (fun w=>By (enc q) w (by omega));have H3:=hid (fun w=>iN (enc p).num w (by omega));have H4:=hid (fun w=>iN (enc q).num w (by omega));simp only [k6,k7] at H1 H2 H3 H4;have N1:NB m p.num.natAbs:=hp.1;have N2:NB m p.den:=hp.2;have N3:NB n q.num.natAbs:=hq.1;have N4:NB n q.den:=hq.2;have hd1:=p.den_pos;have hd2:=q.den_pos;have hq1:0<q.num.natAbs:=Nat.pos_of_ne_zero fun h=>hq0 ((Jj q).1 h)
 have T1:=hid (fun (w:World) (u v:Value)=>lW (w:=w) (u:=u) (v:=v) N1 N4 (by omega) (by omega));have T2:=hid (fun (w:World) (u v:Value)=>lW (w:=w) (u:=u) (v:=v) N2 N3 (by omega) (by omega));have R:=hid (fun (w:World) (u v:Value)=>eL (bi p !=bi q) u v (p.num.natAbs*q.den) (p.den*q.num.natAbs) (m+n) w (N1.mul N4) (N2.mul N3) (by omega) (Nat.mul_pos hd1 hq1));rw [Hm] at R;rw [show bi p=(enc p).neg from rfl,show bi q=(enc q).neg from rfl] at R;obtain ⟨X,hX⟩:∃X,X=p.num.natAbs*q.den:=⟨_,rfl⟩;obtain ⟨D,hD⟩:∃X,X=p.den*q.num.natAbs:=⟨_,rfl⟩;rw [←hX] at T1 R;rw [←hD] at T2 R;generalize enc (p/q)=c at *
 generalize enc p=a at *
 generalize enc q=b at *
 clear hX hD N1 N2 N3 N4 hp hq hp0 hq0 es1 es2 hd1 hd2 hq1;unfold aE at H1 H2 R;unfold aE;have st0:=(BK.push (BK.push (BK.push (BK.nil w) 32 [.bool a.neg,.string a.num,.string a.den] (b:=w.heap.size) (by simp)) 32 [.bool b.neg,.string b.num,.string b.den] (b:=w.heap.size+1) (by simp)) 32 [.bool false,.string {data:= #[]},.string {data:= #[]}] (b:=w.heap.size+1+1) (by simp));obtain ⟨xc,xf,xl,xg⟩:=BK.cell st0 2 rfl;have x0:=xc 0 _ rfl;have x1:=xc 1 _ rfl;have x2:=xc 2 _ rfl;clear xc;obtain ⟨yc,yf,yl,yg⟩:=BK.cell st0 1 rfl;have y0:=yc 0 _ rfl;have y1:=yc 1 _ rfl;have y2:=yc 2 _ rfl;clear yc;go_enter func222,ntmps222
 go_wp2_with fail
 refine jV (by kernel_rfl) [(0,true),(1,true),(2,true),(3,true),(4,true),(5,true),(6,true),(8,true),(11,true),(13,true),(14,true),(7,false),(9,false),(10,false),(12,false),(15,false),(16,false),(17,false),(18,false)] (fun i=>decide (i<18)) (by kernel_rfl) (fun _ _ d _ _ h=>by cases d<;>exact h) ?_;refine b9 (o:=?o0_3_2) (v:=?v0_3_2) (a':=?aa0_3_2) ?hi0_3_2 (Or.inl ⟨?hw0_3_2,?hy0_3_2⟩) ?ha0_3_2 ?rest0_3_2;case hi0_3_2=>(simp [go_sem];rfl)
 case hw0_3_2=>rfl
 case hy0_3_2=>(intro w0 hF0;clear hF0;first|(go_simp;done)|(go_simp;with_reducible rfl))
 case ha0_3_2=>(go_simp;rfl)
 refine b9 (o:=?o1_3_2) (v:=?v1_3_2) (a':=?aa1_3_2) ?hi1_3_2 (Or.inl ⟨?hw1_3_2,?hy1_3_2⟩) ?ha1_3_2 ?rest1_3_2;case hi1_3_2=>(simp [go_sem];rfl)
 case hw1_3_2=>rfl
 case hy1_3_2=>(intro w0 hF0;have hR0:=fun p h=>FL.cell (p:=p) hF0 h;first|(go_simp;done)|(go_simp;with_reducible rfl))
 case ha1_3_2=>(go_simp;rfl)
 refine b9 (o:=?o2_3_2) (v:=?v2_3_2) (a':=?aa2_3_2) ?hi2_3_2 (Or.inl ⟨?hw2_3_2,?hy2_3_2⟩) ?ha2_3_2 ?rest2_3_2;case hi2_3_2=>(simp [go_sem];rfl)
 case hw2_3_2=>rfl
 case hy2_3_2=>(intro w0 hF0;clear hF0;first|(go_simp;done)|(go_simp;with_reducible rfl))
 case ha2_3_2=>(go_simp;rfl)
 refine b9 (o:=?o3_3_2) (v:=?v3_3_2) (a':=?aa3_3_2) ?hi3_3_2 (Or.inl ⟨?hw3_3_2,?hy3_3_2⟩) ?ha3_3_2 ?rest3_3_2;case hi3_3_2=>(simp [go_sem];rfl)
 case hw3_3_2=>rfl
 case hy3_3_2=>(intro w0 hF0;have hR0:=fun p h=>FL.cell (p:=p) hF0 h;first|(go_simp;done)|(go_simp;with_reducible rfl))
 case ha3_3_2=>(go_simp;rfl)
 refine b9 (o:=?o4_3_2) (v:=?v4_3_2) (a':=?aa4_3_2) ?hi4_3_2 (Or.inl ⟨?hw4_3_2,?hy4_3_2⟩) ?ha4_3_2 ?rest4_3_2;case hi4_3_2=>(simp [go_sem];rfl)
 case hw4_3_2=>rfl
 case hy4_3_2=>(intro w0 hF0;clear hF0;first|(go_simp;done)|(go_simp;with_reducible rfl))
 case ha4_3_2=>(go_simp;rfl)
 refine b9 (o:=?o5_3_2) (v:=?v5_3_2) (a':=?aa5_3_2) ?hi5_3_2 (Or.inl ⟨?hw5_3_2,?hy5_3_2⟩) ?ha5_3_2 ?rest5_3_2;case hi5_3_2=>(simp [go_sem];rfl)
 case hw5_3_2=>rfl
 case hy5_3_2=>(intro w0 hF0;clear hF0;first|(go_simp;done)|(go_simp;with_reducible rfl))
 case ha5_3_2=>(go_simp;rfl)
 refine b9 (o:=?o6_3_2) (v:=?v6_3_2) (a':=?aa6_3_2) ?hi6_3_2 (Or.inl ⟨?hw6_3_2,?hy6_3_2⟩) ?ha6_3_2 ?rest6_3_2;case hi6_3_2=>(simp [go_sem];rfl)
 case hw6_3_2=>rfl
 case hy6_3_2=>(intro w0 hF0;have hR0:=fun p h=>FL.cell (p:=p) hF0 h;first|(go_simp;done)|(go_simp;with_reducible rfl))
 case ha6_3_2=>(go_simp;rfl)
 refine b9 (o:=?o8_3_2) (v:=?v8_3_2) (a':=?aa8_3_2) ?hi8_3_2 (Or.inl ⟨?hw8_3_2,?hy8_3_2⟩) ?ha8_3_2 ?rest8_3_2;case hi8_3_2=>(simp [go_sem];rfl)
 case hw8_3_2=>rfl
 case hy8_3_2=>(intro w0 hF0;have hR0:=fun p h=>FL.cell (p:=p) hF0 h;first|(go_simp;done)|(go_simp;with_reducible rfl))
 case ha8_3_2=>(go_simp;rfl)
 refine b9 (o:=?o11_3_2) (v:=?v11_3_2) (a':=?aa11_3_2) ?hi11_3_2 (Or.inl ⟨?hw11_3_2,?hy11_3_2⟩) ?ha11_3_2 ?rest11_3_2;case hi11_3_2=>(simp [go_sem];rfl)
 case hw11_3_2=>rfl
 case hy11_3_2=>(intro w0 hF0;have hR0:=fun p h=>FL.cell (p:=p) hF0 h;first|(go_simp;done)|(go_simp;with_reducible rfl))
 case ha11_3_2=>(go_simp;rfl)
 refine b9 (o:=?o13_3_2) (v:=?v13_3_2) (a':=?aa13_3_2) ?hi13_3_2 (Or.inl ⟨?hw13_3_2,?hy13_3_2⟩) ?ha13_3_2 ?rest13_3_2;case hi13_3_2=>(simp [go_sem];rfl)
 case hw13_3_2=>rfl
 case hy13_3_2=>(intro w0 hF0;clear hF0;first|(go_simp;done)|(go_simp;with_reducible rfl))
 case ha13_3_2=>(go_simp;rfl)
 refine b9 (o:=?o14_3_2) (v:=?v14_3_2) (a':=?aa14_3_2) ?hi14_3_2 (Or.inl ⟨?hw14_3_2,?hy14_3_2⟩) ?ha14_3_2 ?rest14_3_2;case hi14_3_2=>(simp [go_sem];rfl)
 case hw14_3_2=>rfl
 case hy14_3_2=>(intro w0 hF0;have hR0:=fun p h=>FL.cell (p:=p) hF0 h;first|(go_simp;done)|(go_simp;with_reducible rfl))
 case ha14_3_2=>(go_simp;rfl)
 refine ep (o:=?o7_3_2) ?hi7_3_2 ?hw7_3_2 (by rfl) (fun K hK=>?rest7_3_2);case hi7_3_2=>(simp [go_sem];rfl)
 case hw7_3_2=>rfl
 go_simp
 refine Calls.mono (H3.out _) ?_;rintro e w1_ ⟨ua,rfl,ua1,hb1_⟩;have st1_:=BK.next (BK.drew st0) hb1_;clear x0 x1 x2 xf xl xg y0 y1 y2 yf yl yg;obtain ⟨xc,xf,xl,xg⟩:=BK.cell st1_ 2 rfl;have x0:=xc 0 _ rfl;have x1:=xc 1 _ rfl;have x2:=xc 2 _ rfl;clear xc;obtain ⟨yc,yf,yl,yg⟩:=BK.cell st1_ 1 rfl;have y0:=yc 0 _ rfl;have y1:=yc 1 _ rfl;have y2:=yc 2 _ rfl;clear yc;go_simp
 refine hK _ _ (FL.of_below hb1_) ?_;clear hK K;refine ep (o:=?o9_3_2) ?hi9_3_2 ?hw9_3_2 (by rfl) (fun K hK=>?rest9_3_2);case hi9_3_2=>(simp [go_sem];rfl)
 case hw9_3_2=>rfl
 go_simp
 refine Calls.mono (H2.out _) ?_;rintro e w2_ ⟨db,rfl,db1,hb2_⟩;have st2_:=BK.next st1_ hb2_;clear x0 x1 x2 xf xl xg y0 y1 y2 yf yl yg;obtain ⟨xc,xf,xl,xg⟩:=BK.cell st2_ 2 rfl;have x0:=xc 0 _ rfl;have x1:=xc 1 _ rfl;have x2:=xc 2 _ rfl;clear xc;obtain ⟨yc,yf,yl,yg⟩:=BK.cell st2_ 1 rfl;have y0:=yc 0 _ rfl;have y1:=yc 1 _ rfl;have y2:=yc 2 _ rfl;clear yc;replace ua1:=RN.below ua1 hb2_;go_simp
 refine hK _ _ (FL.of_below hb2_) ?_;clear hK K;refine ep (o:=?o10_3_2) ?hi10_3_2 ?hw10_3_2 (by rfl) (fun K hK=>?rest10_3_2);case hi10_3_2=>(simp [go_sem];rfl)
 case hw10_3_2=>rfl
 go_simp
 refine Calls.mono (T1.out _ _ _ ua1 db1) ?_;rintro e w3_ ⟨tx,rfl,tx1,hb3_⟩;have st3_:=BK.next st2_ hb3_;clear x0 x1 x2 xf xl xg y0 y1 y2 yf yl yg;obtain ⟨xc,xf,xl,xg⟩:=BK.cell st3_ 2 rfl;have x0:=xc 0 _ rfl;have x1:=xc 1 _ rfl;have x2:=xc 2 _ rfl;clear xc;obtain ⟨yc,yf,yl,yg⟩:=BK.cell st3_ 1 rfl;have y0:=yc 0 _ rfl;have y1:=yc 1 _ rfl;have y2:=yc 2 _ rfl;clear yc;replace ua1:=RN.below ua1 hb3_;replace db1:=RN.below db1 hb3_;go_simp
 refine hK _ _ (FL.of_below hb3_) ?_;clear hK K;refine ep (o:=?o12_3_2) ?hi12_3_2 ?hw12_3_2 (by rfl) (fun K hK=>?rest12_3_2);case hi12_3_2=>(simp [go_sem];rfl)
 case hw12_3_2=>rfl
 go_simp
 refine Calls.mono (H1.out _) ?_;rintro e w4_ ⟨da,rfl,da1,hb4_⟩;have st4_:=BK.next st3_ hb4_;clear x0 x1 x2 xf xl xg y0 y1 y2 yf yl yg;obtain ⟨xc,xf,xl,xg⟩:=BK.cell st4_ 2 rfl;have x0:=xc 0 _ rfl;have x1:=xc 1 _ rfl;have x2:=xc 2 _ rfl;clear xc;obtain ⟨yc,yf,yl,yg⟩:=BK.cell st4_ 1 rfl;have y0:=yc 0 _ rfl;have y1:=yc 1 _ rfl;have y2:=yc 2 _ rfl;clear yc;replace tx1:=RN.below tx1 hb4_;go_simp
 refine hK _ _ (FL.of_below hb4_) ?_;clear hK K;refine ep (o:=?o15_3_2) ?hi15_3_2 ?hw15_3_2 (by rfl) (fun K hK=>?rest15_3_2);case hi15_3_2=>(simp [go_sem];rfl)
 case hw15_3_2=>rfl
 go_simp
 refine Calls.mono (H4.out _) ?_;rintro e w5_ ⟨ub,rfl,ub1,hb5_⟩;have st5_:=BK.next st4_ hb5_;clear x0 x1 x2 xf xl xg y0 y1 y2 yf yl yg;obtain ⟨xc,xf,xl,xg⟩:=BK.cell st5_ 2 rfl;have x0:=xc 0 _ rfl;have x1:=xc 1 _ rfl;have x2:=xc 2 _ rfl;clear xc;obtain ⟨yc,yf,yl,yg⟩:=BK.cell st5_ 1 rfl;have y0:=yc 0 _ rfl;have y1:=yc 1 _ rfl;have y2:=yc 2 _ rfl;clear yc;replace tx1:=RN.below tx1 hb5_;replace da1:=RN.below da1 hb5_;go_simp
 refine hK _ _ (FL.of_below hb5_) ?_;clear hK K;refine ep (o:=?o16_3_2) ?hi16_3_2 ?hw16_3_2 (by rfl) (fun K hK=>?rest16_3_2);case hi16_3_2=>(simp [go_sem];rfl)
 case hw16_3_2=>rfl
 go_simp
 refine Calls.mono (T2.out _ _ _ da1 ub1) ?_;rintro e w6_ ⟨td,rfl,td1,hb6_⟩;have st6_:=BK.next st5_ hb6_;clear x0 x1 x2 xf xl xg y0 y1 y2 yf yl yg;obtain ⟨xc,xf,xl,xg⟩:=BK.cell st6_ 2 rfl;have x0:=xc 0 _ rfl;have x1:=xc 1 _ rfl;have x2:=xc 2 _ rfl;clear xc;obtain ⟨yc,yf,yl,yg⟩:=BK.cell st6_ 1 rfl;have y0:=yc 0 _ rfl;have y1:=yc 1 _ rfl;have y2:=yc 2 _ rfl;clear yc;replace tx1:=RN.below tx1 hb6_;replace da1:=RN.below da1 hb6_;replace ub1:=RN.below ub1 hb6_;go_simp
 refine hK _ _ (FL.of_below hb6_) ?_;clear hK K;refine ep (o:=?o17_3_2) ?hi17_3_2 ?hw17_3_2 (by rfl) (fun K hK=>?rest17_3_2);case hi17_3_2=>(simp [go_sem];rfl)
 case hw17_3_2=>rfl
 go_simp
 refine Calls.mono (R.out _ _ _ tx1 td1) ?_;rintro e w7_ ⟨rfl,hb7_⟩;have st7_:=BK.next st6_ hb7_;clear x0 x1 x2 xf xl xg y0 y1 y2 yf yl yg;obtain ⟨zc,zf,zl,zg⟩:=BK.cell st7_ 0 rfl;have z0:=zc 0 _ rfl;have z1:=zc 1 _ rfl;have z2:=zc 2 _ rfl;clear zc;replace tx1:=RN.below tx1 hb7_;replace td1:=RN.below td1 hb7_;go_simp
 refine hK _ _ (FL.of_below hb7_) ?_;clear hK K;refine vM 18 (fun j hj=>by simp;omega) ?_;simp only [List.drop_succ_cons,List.drop_zero];have st8_:=BK.put3 st7_ 0 rfl 0 (.bool c.neg) (.string c.num) (.string c.den);go_wp2
 refine Ev (.agg #[.bool c.neg,.string c.num,.string c.den]) st8_ 0 rfl (fun W_ c_=>by have c0_:=c_ 0 _ rfl;have c1_:=c_ 1 _ rfl;have c2_:=c_ 2 _ rfl;simp [results,Tryz.results222,go_sem,c0_,c1_,c2_]) rfl ⟨rfl,st8_.1⟩
theorem y7 (p q:Rat) (m n:Nat) (w:World) (hp:qB m p) (hq:qB n q) (hm:m<=100000000000) (hn:n<=100000000000):
  Calls prog 223 #[aE (enc p),aE (enc q)] w fun e w'=>e= .returned (aE (enc (p*q)))/\Below w.heap.size w w':=by
 by_cases h1:p=0
 ·subst h1;rw [Rat.zero_mul];exact Cj _ _ ((cg 0).2 rfl) w
 by_cases h2:q=0
 ·subst h2;rw [Rat.mul_zero];exact Ck _ _ (fun h=>h1 ((cg p).1 h)) ((cg 0).2 rfl) w
 exact Cl p q m n w hp hq hm hn h1 h2
theorem Cm (p q:Rat) (m n:Nat) (w:World) (hp:qB m p) (hq:qB n q) (hm:m<=100000000000) (hn:n<=100000000000) (h2:q≠0):
  Calls prog 222 #[aE (enc p),aE (enc q)] w fun e w'=>e= .returned (aE (enc (p/q)))/\Below w.heap.size w w':=by
 by_cases h1:p=0
 ·subst h1;rw [Rat.div_def,Rat.zero_mul];exact EH _ _ ((cg 0).2 rfl) w
 exact EI p q m n w hp hq hm hn h1 h2
theorem nV (p q:Rat) (m n:Nat) (hp:qB m p) (hq:qB n q) (hm:m<=100000000000) (hn:n<=100000000000):aU prog 223 [.agg (ai (enc p)),.agg (ai (enc q))] (.val (.agg (ai (enc (p*q))))):=
 bf (b8 func223 (by decide) (by kernel_rfl)) [aE (enc p),aE (enc q)] (aE (enc (p*q))) fun w=>y7 p q m n w hp hq hm hn
theorem Hn (p q:Rat) (m n:Nat) (hp:qB m p) (hq:qB n q) (hm:m<=100000000000) (hn:n<=100000000000) (h2:q≠0):aU prog 222 [.agg (ai (enc p)),.agg (ai (enc q))] (.val (.agg (ai (enc (p/q))))):=
 bf (b8 func222 (by decide) (by kernel_rfl)) [aE (enc p),aE (enc q)] (aE (enc (p/q))) fun w=>Cm p q m n w hp hq hm hn h2
def WR.get (R:WR) (i:Int):Rat:=if i= -1 then R.rv else R.cl.getD i.toNat 0
def jZ:List Rat->Rat
 |[]=>0
 |x::l=>x+jZ l
def WR.all (R:WR):Rat:=jZ R.cl+R.rv
def inR (n:Nat) (c:Int):Prop:=c= -1∨0<=c/\c<n
def wIn (n:Nat) (t:WT):Prop:=∀p∈t,inR n p.1
def wAt (i:Int):WT->Rat
 |[]=>0
 |p::t=>(if p.1=i then p.2 else 0)+wAt i t
def dw:List WT->Rat->Int->Rat
 |[],_,_=>0
 |t::l,m,i=>if m<au t then (m/au t)*wAt i t else wAt i t+dw l (m-au t) i
def cK:List WT->Rat
 |[]=>0
 |t::l=>au t+cK l
def fr (i:Int):List WT->Rat
 |[]=>0
 |t::l=>wAt i t+fr i l
theorem qL:∀(l:List Rat) (k:Nat) (x:Rat),k<l.length->jZ (l.set k x)=jZ l-l.getD k 0+x
 |[],_,_,h=>absurd h (by simp)
 |y::l,0,x,_=>by simp only [List.set_cons_zero,jZ,List.getD_cons_zero];grind
 |y::l,k+1,x,h=>by
  have h1:=qL l k x (by simpa using h);simp only [List.set_cons_succ,jZ,List.getD_cons_succ,h1];grind
theorem lS {l:List Rat} {k:Nat} (h:k<l.length) (x:Rat):(l.set k x).getD k 0=x:=by
 rw [List.getD_eq_getElem?_getD,List.getElem?_set_self h];rfl
theorem eH {l:List Rat} {k j:Nat} (h:k≠j) (x:Rat):(l.set k x).getD j 0=l.getD j 0:=by
 rw [List.getD_eq_getElem?_getD,List.getElem?_set_ne h,←List.getD_eq_getElem?_getD]
theorem qM {R:WR} {c i:Int} (hc:inR R.cl.length c) (hi:i= -1∨0<=i) (a:Rat):(R.add c a).get i=R.get i+if c=i then a else 0:=by
 unfold WR.add WR.get;by_cases h1:c= -1
 ·subst h1;by_cases h2:i= -1
  ·subst h2;simp
  have h3:¬(-1:Int)=i:=fun h=>h2 h.symm
  simp only [if_pos,h2,h3,if_false];grind
 rcases hc with h|⟨h3,h4⟩
 ·exact absurd h h1
 simp only [h1,if_false];by_cases h2:i= -1
 ·subst h2;simp only [if_pos,h1,if_false];grind
 simp only [h2,if_false];by_cases h5:c=i
 ·subst h5;rw [lS (by omega)];simp
 have h6:c.toNat≠i.toNat:=by omega
 rw [eH h6];simp only [h5,if_false];grind
theorem EJ {R:WR} {c:Int} (hc:inR R.cl.length c) (a:Rat):(R.add c a).all=R.all+a:=by
 unfold WR.add WR.all;by_cases h1:c= -1
 ·simp only [h1,if_true];grind
 rcases hc with h|⟨h3,h4⟩
 ·exact absurd h h1
 simp only [h1,if_false];rw [qL _ _ _ (by omega)];grind
theorem mZ (q:Rat) (i:Int) (hi:i= -1∨0<=i):∀(t:WT) (R:WR),wIn R.cl.length t->(e7 q t R).get i=R.get i+q*wAt i t
 |[],R,_=>by simp only [e7,wAt];grind
 |p::t,R,h=>by
  have h1:=mZ q i hi t (R.add p.1 (p.2*q)) (by rw [cb];exact fun x hx=>h x (by simp [hx]));rw [e7,h1,qM (h p (by simp)) hi,wAt];by_cases h2:p.1=i
  ·simp only [h2,if_true];grind
  simp only [h2,if_false];grind
theorem xb (q:Rat):∀(t:WT) (R:WR),wIn R.cl.length t->(e7 q t R).all=R.all+q*au t
 |[],R,_=>by simp only [e7,au];grind
 |p::t,R,h=>by
  have h1:=xb q t (R.add p.1 (p.2*q)) (by rw [cb];exact fun x hx=>h x (by simp [hx]));rw [e7,h1,EJ (h p (by simp)),au];grind
theorem lw:∀(t:WT) (R:WR),iE t R=e7 1 t R
 |[],R=>rfl
 |p::t,R=>by rw [iE,e7,Rat.mul_one,lw t]
theorem xd (m:Rat) (R:WR):io [] m R=R:=by simp [io,aJ,f5,ef]
theorem th (t:WT) (l:List WT) (m:Rat) (R:WR):io (t::l) m R=if m<au t then e7 (m/au t) t R else io l (m-au t) (iE t R):=by
 unfold io;by_cases h:m<au t
 ·simp only [aJ,h,if_true,List.take_zero,f5];unfold ef;rw [if_pos (by simp)];rfl
 simp only [aJ,h,if_false,List.take_succ_cons,f5];unfold ef;simp only [List.length_cons,Nat.add_lt_add_iff_right,List.getD_cons_succ]
theorem jh (i:Int) (hi:i= -1∨0<=i):∀(l:List WT) (m:Rat) (R:WR),(∀t∈l,wIn R.cl.length t)->(io l m R).get i=R.get i+dw l m i
 |[],m,R,_=>by rw [xd,dw];grind
 |t::l,m,R,h=>by
  rw [th,dw];split
  ·rw [mZ _ i hi t R (h t (by simp))]
  have h1:=jh i hi l (m-au t) (iE t R) (by rw [nP];exact fun x hx=>h x (by simp [hx]));rw [h1,lw,mZ 1 i hi t R (h t (by simp))];grind
def wNN (l:List WT):Prop:=∀t∈l,∀p∈t,0<=p.2
theorem jG:∀(t:WT),(∀p∈t,0<=p.2)->0<=au t
 |[],_=>by simp [au]
 |p::t,h=>by
  have h1:=jG t fun x hx=>h x (by simp [hx])
  have h2:=h p (by simp);rw [au];grind
theorem mp (i:Int):∀(t:WT),(∀p∈t,0<=p.2)->0<=wAt i t
 |[],_=>by simp [wAt]
 |p::t,h=>by
  have h1:=mp i t fun x hx=>h x (by simp [hx])
  have h2:=h p (by simp);rw [wAt];split<;>grind
theorem m5:∀(l:List WT),wNN l->0<=cK l
 |[],_=>by simp [cK]
 |t::l,h=>by
  have h1:=m5 l fun x hx=>h x (by simp [hx])
  have h2:=jG t (h t (by simp));rw [cK];grind
theorem dK {m s:Rat} (h:0<s):m/s*s=m:=Rat.div_mul_cancel (by grind)
theorem mq {m s:Rat} (h0:0<=m) (h:m<s):0<=m/s/\m/s<=1:=by
 have hs:0<s:=by grind
 have h1:=dK (m:=m) hs;constructor
 ·rw [Rat.div_def];have h2:=Rat.inv_pos.2 hs;exact Rat.mul_nonneg h0 (by grind)
 refine Rat.le_of_mul_le_mul_right (c:=s) ?_ hs;rw [h1];grind
theorem jH (i:Int):∀(l:List WT) (m:Rat),0<=m->wNN l->0<=dw l m i/\dw l m i<=fr i l
 |[],m,_,_=>by simp [dw,fr]
 |t::l,m,hm,hn=>by
  have ha:=mp i t (hn t (by simp));have hs:0<=fr i l:=by
   have:=jH i l 0 (by grind) fun x hx=>hn x (by simp [hx])
   grind
  rw [dw,fr];split
  ·rename_i hlt;obtain ⟨h1,h2⟩:=mq hm hlt;have h3:=Rat.mul_nonneg h1 ha;have h4:m/au t*wAt i t<=1*wAt i t:=Rat.mul_le_mul_of_nonneg_right h2 ha;grind
  have h1:=jH i l (m-au t) (by grind) fun x hx=>hn x (by simp [hx])
  grind
theorem qN (i:Int):∀(l:List WT) (m n:Rat),0<=m->m<=n->wNN l->dw l m i<=dw l n i
 |[],m,n,_,_,_=>by simp [dw]
 |t::l,m,n,hm,hmn,hn=>by
  have ha:=mp i t (hn t (by simp));rw [dw,dw];by_cases h1:n<au t
  ·have h2:m<au t:=by grind
   rw [if_pos h1,if_pos h2];refine Rat.mul_le_mul_of_nonneg_right ?_ ha;have hs:0<au t:=by grind
   refine Rat.le_of_mul_le_mul_right (c:=au t) ?_ hs;rw [dK hs,dK hs];exact hmn
  rw [if_neg h1];have h3:=jH i l (n-au t) (by grind) fun x hx=>hn x (by simp [hx])
  by_cases h2:m<au t
  ·rw [if_pos h2];obtain ⟨h4,h5⟩:=mq hm h2;have h6:m/au t*wAt i t<=1*wAt i t:=Rat.mul_le_mul_of_nonneg_right h5 ha;grind
  rw [if_neg h2];have h4:=qN i l (m-au t) (n-au t) (by grind) (by grind) fun x hx=>hn x (by simp [hx])
  grind
end Go.Proofs.YtokmkopihhnggaaGreatDoor
