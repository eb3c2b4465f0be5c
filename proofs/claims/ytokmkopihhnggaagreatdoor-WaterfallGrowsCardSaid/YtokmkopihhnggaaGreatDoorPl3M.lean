/- Plain law: a group that is built is valid; its legs are found where they stand, and there only. No walk. -/
import Derived.Test.YtokmkopihhnggaaGreatDoorBl5M
import Derived.Test.YtokmkopihhnggaaGreatDoorRw5M
import Derived.Test.YtokmkopihhnggaaGreatDoorCs1M
import Derived.Test.YtokmkopihhnggaaGreatDoorAbBM
import Derived.Test.YtokmkopihhnggaaGreatDoorGu1M
import Derived.Test.YtokmkopihhnggaaGreatDoorWf6M
import Derived.Test.YtokmkopihhnggaaGreatDoorNumM
import Derived.Deep.DeepCutAuto
import Derived.Deep.RegionHeld3
set_option linter.unusedVariables false
set_option linter.unusedSimpArgs false
set_option linter.unusedSectionVars false
namespace Go.Proofs.YtokmkopihhnggaaGreatDoor
open Go Go.RowKit Go.Proofs.Tryz
theorem PK {q:Rat} (h:0<=q):0<=cU q:=by unfold cU dM;grind
def prP (n:Int) (E:Int->Bool) (p:GPart):Prop:=(p.claim= -1/\p.capped=true∨0<=p.claim/\p.claim<n/\E p.claim=false)/\0<=cU (qOf p.cap)
theorem OH {n : Int} {E : Int → Bool} (hn : 0 ≤ n) : ∀ {l : List GPart}, (∀ p ∈ l, prP n E p) → agT n E l = 0
  | [], _ => rfl
  | p :: l, h => by
    have h2 := OH hn (fun q hq => h q (List.mem_cons_of_mem _ hq))
    obtain ⟨h3, h4⟩ := h p (by simp)
    simp only [agT, h2]
    rw [if_neg (by omega), if_neg (by rintro ⟨a, b⟩; rcases h3 with h3 | h3
                                      · rw [b] at h3; cases h3.2
                                      omega), if_neg (by omega), if_neg (by rintro ⟨a, b⟩; rcases h3 with h3 | h3
                                                                            · exact a h3.1
                                                                            rw [h3.2.2] at b; cases b)]
def Pu (n:Int) (pre:List bR) (a:bR):Prop:=a.length<=24/\(∀t∈a,t.length<=24)/\∀p∈a.flatten,prP n (fun c=>mbE c pre) p
theorem Pb {n:Int} {pre:List bR} {a:bR} (hn:0<=n) (h:Pu n pre a):agS n (fun c=>mbE c pre) a=0:=by
 unfold agS;rw [if_neg (by have:=h.1;omega),if_neg,vw,OH hn h.2.2];intro h1;obtain ⟨t,ht,h2⟩:=List.any_eq_true.1 h1;have:=h.2.1 t ht;simp only [eb,decide_eq_true_eq] at h2;omega
def OV (e:GEst):Prop:=∀i (h:i<e.agrs.length),Pu e.claims.length (e.agrs.take i) e.agrs[i]
theorem Ow (e:GEst) (h:OV e):∀(l:List bR) (i:Nat),l=e.agrs.drop i->jB e i l=0
 |[],_,_=>rfl
 |a::l,i,hl=>by
  have hi:i<e.agrs.length:=by
   rcases Nat.lt_or_ge i e.agrs.length with h|h
   ·exact h
   rw [List.drop_eq_nil_of_le h] at hl;cases hl
  rw [List.drop_eq_getElem_cons hi] at hl;obtain ⟨rfl,hl'⟩:=List.cons.inj hl;have h0:=Pb (by omega) (h i hi);simp only [jB,h0,ne_eq,not_true_eq_false,if_false];exact Ow e h l (i+1) hl'
theorem Pc (c:Int):∀l,frP c l= !mbT c l
 |[]=>rfl
 |p::l=>by
  simp only [frP,mbT,Pc c l];by_cases h:p.claim=c<;>simp [h]
theorem Pd (c:Int):∀a,frT c a= !mbA c a
 |[]=>rfl
 |t::a=>by
  simp only [frT,mbA,Pd c a,Pc c t];cases mbT c t<;>simp
theorem Pe (c:Int):∀l,frA c l= !mbE c l
 |[]=>rfl
 |a::l=>by
  simp only [frA,mbE,Pe c l,Pd c a];cases mbA c a<;>simp
def tOK (Q:GPart->Prop) (T:T3):Prop:=(∀p∈T.a,Q p)/\(∀p∈T.b,Q p)/\∀p∈T.c,Q p
theorem LC {Q:GPart->Prop} (T:T3) (x:Nat) (p:GPart) (h:tOK Q T) (hp:Q p):tOK Q (T.put x p):=by
 unfold T3.put;have key:∀l:List GPart,(∀q∈l,Q q)->∀q∈l++[p],Q q:=fun l hl q hq=>by
  rcases List.mem_append.1 hq with h1|h1
  ·exact hl q h1
  obtain rfl:q=p:=by simpa using h1
  exact hp
 split
 ·exact ⟨key _ h.1,h.2.1,h.2.2⟩
 split
 ·exact ⟨h.1,key _ h.2.1,h.2.2⟩
 exact ⟨h.1,h.2.1,key _ h.2.2⟩
theorem LD {Q:GPart->Prop} (agrs:List bR) (p:N3) (n:Nat) (hQ:∀i,i<n->frA i agrs=true->Q (bgP p i)):∀(l:List GClaim) (i:Nat) (T:T3),i+l.length<=n->tOK Q T->tOK Q (bgL agrs p l i T)
 |[],_,_,_,h=>h
 |_::l,i,T,hl,h=>by
  rw [List.length_cons] at hl;refine LD agrs p n hQ l (i+1) _ (by omega) ?_;unfold bgS;split
  ·exact h
  split
  ·exact LC _ _ _ h (hQ i (by omega) ‹_›)
  exact h
theorem OW (n:Nat):0<=cU (qOf (enc (((n:Nat):Int):Rat))):=by
 rw [ci];exact PK (by exact_mod_cast Nat.zero_le n)
theorem Pf:0<=cU (qOf gZ):=by rw [mZ];exact PK (by grind)
theorem OX (x:Nat):0<=cU (qOf (enc (pb x))):=by rw [ci];exact PK (Oq x)
theorem Pv (agrs:List bR) (p:N3) (n i:Nat) (hi:i<n) (hf:frA i agrs=true):prP n (fun c=>mbE c agrs) (bgP p i):=by
 rw [Pe] at hf;have hb:mbE (i:Int) agrs=false:=by simpa using hf
 unfold bgP;split
 ·exact ⟨.inr ⟨by simp,by simp;omega,hb⟩,OW _⟩
 exact ⟨.inr ⟨by simp,by simp;omega,hb⟩,Pf⟩
theorem Pg (e:GEst) (p:N3) (h:e.claims.length<=6):Pu e.claims.length e.agrs (bgN e p):=by
 have h0:=NC e p h;refine ⟨by omega,fun t ht=>by have:=h0.2 t ht;omega,fun q hq=>?_⟩;have h1:tOK (prP e.claims.length (fun c=>mbE c e.agrs)) (bgT p (bgL e.agrs p e.claims 0 ⟨[],[],[]⟩)):=by
  have h2:=LD (Q:=prP e.claims.length (fun c=>mbE c e.agrs)) e.agrs p e.claims.length (fun i hi hf=>Pv e.agrs p _ i hi hf) e.claims 0 ⟨[],[],[]⟩ (by omega) ⟨by simp,by simp,by simp⟩;unfold bgT;split
  ·exact LC _ _ _ h2 ⟨.inl ⟨rfl,rfl⟩,OW _⟩
  exact h2
 obtain ⟨t,ht,hq⟩:=List.mem_flatten.1 hq;simp only [bgN,List.mem_cons,List.not_mem_nil,or_false] at ht;rcases ht with rfl|rfl|rfl
 ·exact h1.1 q hq
 ·exact h1.2.1 q hq
 exact h1.2.2 q hq
def vC (size i:Nat) (c:GClaim):Prop:=c.holder≠(i:Int)/\ -1<=c.holder/\c.holder<(size:Int)/\0<=c.rank/\c.rank<=7/\0<=cU (qOf c.amount)
def vE (size i:Nat) (e:GEst):Prop:=0<=cU (qOf e.cash)/\(∀c∈e.claims,vC size i c)/\OV e
def OF (Pr:Nat->GEst->Prop) (es:List GEst):Prop:=∀i (h:i<es.length),Pr i es[i]
theorem OI {Pr:Nat->GEst->Prop} {es:List GEst} (h:OF Pr es) (j:Nat) (x:GEst) (hx:j<es.length->Pr j x):OF Pr (es.set j x):=fun i hi=>by
 rw [List.getElem_set];split
 ·rename_i hji;subst hji;exact hx (by simpa using hi)
 exact h i (by simpa using hi)
theorem Jo (es:List GEst) (j:Nat) (h:j<es.length):es.getD j o4=es[j]:=by
 rw [List.getD_eq_getElem?_getD,List.getElem?_eq_getElem h];rfl
theorem zr {α β:Type} {Pr:β->Prop} (f:β->α->β) (hf:∀b x,Pr b->Pr (f b x)):∀(l:List α) (b:β),Pr b->Pr (l.foldl f b)
 |[],_,h=>h
 |x::l,b,h=>zr f hf l (f b x) (hf b x h)
def vE0 (size i:Nat) (e:GEst):Prop:=0<=cU (qOf e.cash)/\(∀c∈e.claims,vC size i c)/\e.agrs=[]
theorem O3 (size:Nat) (x:N4):vC size (x.a%size) (d6 size x):=by
 unfold d6 vC;refine ⟨?_,?_,?_,?_,?_,OX _⟩;all_goals dsimp only
 ·unfold sk;split<;>omega
 ·unfold sk;split<;>omega
 ·unfold sk;split<;>omega
 ·omega
 omega
theorem OO (size:Nat) (es:List GEst) (x:N4) (h:OF (vE0 size) es):OF (vE0 size) (gc size es x):=by
 unfold gc;split
 ·exact h
 refine OI h _ _ fun hj=>?_
 rw [Jo _ _ hj];obtain ⟨h1,h2,h3⟩:=h _ hj;refine ⟨h1,fun c hc=>?_,h3⟩;rcases List.mem_append.1 hc with hc|hc
 ·exact h2 c hc
 obtain rfl:c=d6 size x:=by simpa using hc
 exact O3 size x
theorem Pw (size i:Nat) (cash:List Nat):vE0 size i (o5 cash i):=by
 refine ⟨?_,by simp [o5],rfl⟩;unfold o5;dsimp only;split
 ·exact OX _
 exact Pf
theorem OP (e:GEst) (a:bR) (h:OV e) (ha:Pu e.claims.length e.agrs a):OV ⟨e.cash,e.claims,e.agrs++[a]⟩:=fun i hi=>by
 have hi':i<e.agrs.length+1:=by simpa using hi
 by_cases hlt:i<e.agrs.length
 ·have h1:=h i hlt;simp only [List.getElem_append_left hlt,List.take_append_of_le_length (Nat.le_of_lt hlt)];exact h1
 obtain rfl:i=e.agrs.length:=by omega
 simp only [List.take_left,List.getElem_concat_length];exact ha
theorem Px (size:Nat) (es:List GEst) (p:N3) (h:(∀e∈es,okB e)/\OF (vE size) es):(∀e∈Oi size es p,okB e)/\OF (vE size) (Oi size es p):=by
 refine ⟨JO size es p h.1,?_⟩;unfold Oi;split
 ·refine OI h.2 _ _ fun hj=>?_
  rw [Jo _ _ hj];obtain ⟨h1,h2,h3⟩:=h.2 _ hj;exact ⟨h1,h2,OP _ _ h3 (Pg _ p (h.1 _ (List.getElem_mem hj)).1)⟩
 exact h.2
theorem PL (n : Nat) (cash : List Nat) (list : List N4) (pools : List N3) : OF (vE (1 + n % 4)) (JC n cash list pools) := by
  unfold JC
  refine (zr (Pr := fun es => (∀ e ∈ es, okB e) ∧ OF (vE (1 + n % 4)) es) _ (Px _) _ _ ⟨fun e he => ?_, ?_⟩).2
  · have h := yl (Pr := okC) (gc (1 + n % 4)) (jY _) list _ (fun e he => by
      obtain ⟨i, _, rfl⟩ := List.mem_map.1 he
      exact ⟨by simp [o5], rfl⟩) e he
    exact ⟨h.1, by rw [h.2]; simp, by rw [h.2]; simp⟩
  have h := zr (Pr := OF (vE0 (1 + n % 4))) (gc (1 + n % 4)) (OO _) list ((List.range (1 + n % 4)).map (o5 cash)) (fun i hi => by
    have h1 := Pw (1 + n % 4) i cash
    simpa using h1)
  intro i hi
  obtain ⟨h1, h2, h3⟩ := h i hi
  exact ⟨h1, h2, fun k hk => by rw [h3] at hk; simp at hk⟩
theorem Oo {size i:Nat} (hs:size<=8):∀{l:List GClaim},(∀c∈l,vC size i c)->bq l=0
 |[],_=>rfl
 |c::l,h=>by
  have h2:=Oo hs (fun d hd=>h d (List.mem_cons_of_mem _ hd));obtain ⟨a1,a2,a3,a4,a5,a6⟩:=h c (by simp);simp only [bq,h2];rw [if_neg (by omega),if_neg (by omega),if_neg (by omega)]
theorem OJ {size i:Nat} {e:GEst} (hs:size<=8) (h:vE size i e) (hc:e.claims.length<=24) (ha:e.agrs.length<=12):tG e=0:=by
 unfold tG;rw [if_neg (by omega),if_neg (by have:=h.1;omega),Oo hs h.2.1];simp only [ne_eq,not_true_eq_false,if_false];exact Ow e h.2.2 _ 0 (by simp)


end Go.Proofs.YtokmkopihhnggaaGreatDoor
namespace Go.Proofs.YtokmkopihhnggaaGreatDoor
open Go Go.RowKit Go.ChangeShapes Go.WideShapes Go.ChangeAt Go.Proofs.Tryz
theorem k9:eI prog 57 (rC Kl (·<65536)):=by
 intro H enc W fuel cs x h;obtain ⟨n,rfl,hn⟩:=LL underlying57 H enc W fuel cs x h;exact ⟨n,⟨⟨rfl,rfl⟩,trivial⟩,hn⟩
theorem Tryz.cellsU16:prog.cellsOf 57=1:=by kernel_rfl
theorem Tryz.cellsN4:prog.cellsOf 97=4:=by kernel_rfl
theorem Tryz.cellsN3:prog.cellsOf 98=3:=by kernel_rfl
def Kp (x:N4):Prop:=x.a<65536/\x.b<65536/\x.c<65536/\x.d<65536
def LR (x:N3):Prop:=x.a<65536/\x.b<65536/\x.c<65536
theorem LS:eI prog 97 (rC cN4 Kp):=by
 intro H enc W fuel cs x h;obtain ⟨xs,m,_,_,hl,hxs,hf⟩:=DataW.trod_array underlying97 h;rw [Tryz.cellsN4] at hl;simp only [Tryz.cellsU16] at hf;match cs,hl with
 |[c0,c1,c2,c3],_=>
  have h0:=hf 0 (by decide);rw [List.getElem?_eq_getElem (by omega)] at h0;have h1:=hf 1 (by decide);rw [List.getElem?_eq_getElem (by omega)] at h1;have h2:=hf 2 (by decide);rw [List.getElem?_eq_getElem (by omega)] at h2;have h3:=hf 3 (by decide);rw [List.getElem?_eq_getElem (by omega)] at h3;obtain ⟨a0,k0,o0⟩:=k9 H enc W _ _ _ h0;obtain ⟨a1,k1,o1⟩:=k9 H enc W _ _ _ h1;obtain ⟨a2,k2,o2⟩:=k9 H enc W _ _ _ h2;obtain ⟨a3,k3,o3⟩:=k9 H enc W _ _ _ h3;replace k0:denVs (fd W) [c0] _:=k0;replace k1:denVs (fd W) [c1] _:=k1;replace k2:denVs (fd W) [c2] _:=k2;replace k3:denVs (fd W) [c3] _:=k3;exact ⟨⟨a0,a1,a2,a3⟩,denVs.append k0 (denVs.append k1 (denVs.append k2 k3)),o0,o1,o2,o3⟩
theorem JQ:eI prog 22 (rC (cSl 4 cN4) (qU Kp)):=JL underlying22 Tryz.cellsN4 (by decide) OU LS
theorem LU:eI prog 98 (rC cN3 LR):=by
 intro H enc W fuel cs x h;obtain ⟨xs,m,_,_,hl,hxs,hf⟩:=DataW.trod_array underlying98 h;rw [Tryz.cellsN3] at hl;simp only [Tryz.cellsU16] at hf;match cs,hl with
 |[c0,c1,c2],_=>
  have h0:=hf 0 (by decide);rw [List.getElem?_eq_getElem (by omega)] at h0;have h1:=hf 1 (by decide);rw [List.getElem?_eq_getElem (by omega)] at h1;have h2:=hf 2 (by decide);rw [List.getElem?_eq_getElem (by omega)] at h2;obtain ⟨a0,k0,o0⟩:=k9 H enc W _ _ _ h0;obtain ⟨a1,k1,o1⟩:=k9 H enc W _ _ _ h1;obtain ⟨a2,k2,o2⟩:=k9 H enc W _ _ _ h2;replace k0:denVs (fd W) [c0] _:=k0;replace k1:denVs (fd W) [c1] _:=k1;replace k2:denVs (fd W) [c2] _:=k2;exact ⟨⟨a0,a1,a2⟩,denVs.append k0 (denVs.append k1 k2),o0,o1,o2⟩
theorem JR:eI prog 23 (rC (cSl 3 cN3) (qU LR)):=JL underlying23 Tryz.cellsN3 (by decide) Kn LU
end Go.Proofs.YtokmkopihhnggaaGreatDoor
namespace Go.Proofs.YtokmkopihhnggaaGreatDoor
open Go.RowKit Go.Proofs.Tryz
def RL (w:World) (v:Value) (l:List GRat):Prop:=aH 3 IW w (LT w.heap.size) [v] l
theorem RL.below {w w':World} {v:Value} {l:List GRat} (h:RL w v l) (hb:Below w.heap.size w w'):RL w' v l:=(aX Lc).below h hb hb.size
theorem RL.drew {w:World} {v:Value} {l:List GRat} (h:RL w v l):RL w.drew v l:=h
theorem RL.open {w:World} {v:Value} {l:List GRat} (h:RL w v l):
  ∃a cap,v= .slice a l.length cap/\l.length<=9223372036854775807/\(l=[]∨∃b off,a=some ⟨b,off,none⟩/\b<w.heap.size/\∀j (h:j<l.length),w.cell? ⟨b,off+j*3,none⟩=some (.bool l[j].neg)/\w.cell? ⟨b,off+j*3+1,none⟩=some (.string l[j].num)/\w.cell? ⟨b,off+j*3+2,none⟩=some (.string l[j].den)/\sB maxLen l[j]):=by
 obtain ⟨a,cap,hv,h1,h2,h3,h4⟩:=h;simp only [List.cons.injEq,and_true] at hv;refine ⟨a,cap,hv,eB h1 h2,?_⟩;rcases h4 with h4|⟨b,off,h5,h6,h7⟩
 ·exact .inl h4
 refine .inr ⟨b,off,h5,h6,fun j hj=>?_⟩;obtain ⟨cs,k1,k2,rfl,k3,k4⟩:=h7 j hj;exact ⟨k2 0 (by decide),k2 1 (by decide),k2 2 (by decide),k3,k4⟩
theorem Mw (w:World) (S:Nat->Prop) (r:GRat) (h:sB maxLen r):IW w S [.bool r.neg,.string r.num,.string r.den] r:=⟨rfl,h.1,h.2⟩
def Jp (rs:List GRat) (j:Nat):Value:=if j%3=0 then .bool (rs.getD (j/3) gZ).neg else if j%3=1 then .string (rs.getD (j/3) gZ).num else .string (rs.getD (j/3) gZ).den
def OwnR (w:World) (g n:Nat) (rs:List GRat):Prop:=rs.length=n/\Own w g 32 (n*3) (Jp rs)
theorem Mx (rs:List GRat) (k:Nat):Jp rs (k*3)= .bool (rs.getD k gZ).neg:=by
 unfold Jp;rw [if_pos (by omega),show k*3/3=k by omega]
theorem My (rs:List GRat) (k:Nat):Jp rs (k*3+1)= .string (rs.getD k gZ).num:=by
 unfold Jp;rw [if_neg (by omega),if_pos (by omega),show (k*3+1)/3=k by omega]
theorem Mz (rs:List GRat) (k:Nat):Jp rs (k*3+2)= .string (rs.getD k gZ).den:=by
 unfold Jp;rw [if_neg (by omega),if_neg (by omega),show (k*3+2)/3=k by omega]
theorem OwnR.facts {w:World} {g n:Nat} {rs:List GRat} (h:OwnR w g n rs) {k:Nat} (hk:k<n):
  w.cell? ⟨g,k*3,none⟩=some (.bool (rs.getD k gZ).neg)/\w.cell? ⟨g,k*3+1,none⟩=some (.string (rs.getD k gZ).num)/\w.cell? ⟨g,k*3+2,none⟩=some (.string (rs.getD k gZ).den)/\(∀j,w.frozen? ⟨g,j,none⟩=false)/\g<w.heap.size:=by
 have h1:=h.2.cell (j:=k*3) (by omega);have h2:=h.2.cell (j:=k*3+1) (by omega);have h3:=h.2.cell (j:=k*3+2) (by omega);rw [Mx] at h1;rw [My] at h2;rw [Mz] at h3;exact ⟨h1,h2,h3,fun j=>h.2.frozen j,h.2.lt⟩
theorem OwnR.put {w:World} {g n:Nat} {rs:List GRat} (h:OwnR w g n rs) {k:Nat} (hk:k<n) (r:GRat):
  OwnR (((w.setCell ⟨g,k*3,none⟩ (.bool r.neg)).setCell ⟨g,k*3+1,none⟩ (.string r.num)).setCell ⟨g,k*3+2,none⟩ (.string r.den)) g n (rs.set k r):=by
 refine ⟨by rw [List.length_set];exact h.1,(((h.2.set _ _).set _ _).set _ _).congr fun j hj=>?_⟩;have hk':k<rs.length:=by rw [h.1];exact hk
 unfold upd;by_cases e2:j=k*3+2
 ·rw [if_pos e2,e2,Mz];simp [List.getD,hk']
 rw [if_neg e2];by_cases e1:j=k*3+1
 ·rw [if_pos e1,e1,My];simp [List.getD,hk']
 rw [if_neg e1];by_cases e0:j=k*3
 ·rw [if_pos e0,e0,Mx];simp [List.getD,hk']
 rw [if_neg e0];have hne:¬k=j/3:=by omega
 unfold Jp;simp [List.getD,hne]
theorem OwnR.below {w w':World} {g n:Nat} {rs:List GRat} (h:OwnR w g n rs) (hb:Below w.heap.size w w'):OwnR w' g n rs:=⟨h.1,h.2.below hb h.2.lt⟩
theorem OwnR.alloc {w:World} {g n:Nat} {rs:List GRat} (h:OwnR w g n rs) (o:Obj):OwnR (w.alloc o) g n rs:=⟨h.1,h.2.alloc o⟩
theorem OwnR.drew {w:World} {g n:Nat} {rs:List GRat} (h:OwnR w g n rs):OwnR w.drew g n rs:=h
theorem OwnR.other {w:World} {g g' n:Nat} {rs:List GRat} (h:OwnR w g n rs) (hne:g'≠g) (r:GRat):OwnR (Ma w g' r) g n rs:=⟨h.1,((h.2.other hne _ _).other hne _ _).other hne _ _⟩
theorem OwnR.new (w:World) (n:Nat):OwnR (w.alloc (.cells (madeCells #[.bool false,.string {data:= #[]},.string {data:= #[]}] (n*3)) 32)) w.heap.size n (List.replicate n gZ):=by
 refine ⟨by simp,?_⟩;unfold Own;rw [heap_alloc_new];congr 2;apply Array.ext
 ·simp [madeCells]
 intro i h1 h2;have hi:i<n*3:=by simpa using h2
 have e:(List.replicate n gZ).getD (i/3) gZ=gZ:=by simp [List.getD,List.getElem?_replicate];split<;>rfl
 simp only [madeCells,Array.getElem_map,Array.getElem_range,Jp,e];have:i%3=0∨i%3=1∨i%3=2:=by omega
 rcases this with h|h|h<;>simp [h]<;>rfl
theorem OwnR.reads {w:World} {g n:Nat} {rs:List GRat} (h:OwnR w g n rs) (hn:n<=maxLen) (hs:∀r∈rs,sB maxLen r):RL w (.slice (some ⟨g,0,none⟩) n n) rs:=by
 refine ⟨some ⟨g,0,none⟩,n,by rw [h.1],by rw [h.1];exact Nat.le_refl _,hn,by simp,.inr ⟨g,0,rfl,h.2.lt,fun j hj=>⟨[.bool rs[j].neg,.string rs[j].num,.string rs[j].den],rfl,?_,Mw _ _ _ (hs _ (List.getElem_mem hj))⟩⟩⟩;intro c hc;obtain ⟨f0,f1,f2,_⟩:=h.facts (k:=j) (by rw [←h.1];exact hj);have e:rs.getD j gZ=rs[j]:=by simp [List.getD,hj]
 rw [e] at f0 f1 f2;have:c=0∨c=1∨c=2:=by omega
 rcases this with rfl|rfl|rfl
 ·simpa using f0
 ·simpa using f1
 simpa using f2
attribute [local go_sem ↓] Go.wp_at_zero Go.wp_at_succ
def RSt (w wr:World) (W:GRat) (n:Nat) (rs:List GRat) (s o:GRat):Prop:=
 Bx wr w.heap.size W/\OwnR wr (w.heap.size+1) n rs/\Bx wr (w.heap.size+1+1) s/\Bx wr (w.heap.size+1+1+1) o/\Below w.heap.size w wr
section
variable {w wr : World} {W : GRat} {n : Nat} {rs : List GRat} {s o : GRat}
theorem RSt.next {w':World} (h:RSt w wr W n rs s o) (hb:Below wr.heap.size wr w'):RSt w w' W n rs s o:=⟨h.1.below hb,h.2.1.below hb,h.2.2.1.below hb,h.2.2.2.1.below hb,h.2.2.2.2.step hb⟩
theorem RSt.drew (h:RSt w wr W n rs s o):RSt w wr.drew W n rs s o:=⟨h.1.drew,h.2.1.drew,h.2.2.1.drew,h.2.2.2.1.drew,Below.drew h.2.2.2.2⟩
theorem RSt.alloc (h:RSt w wr W n rs s o) (b:Obj):RSt w (wr.alloc b) W n rs s o:=h.next ((Below.refl _ _).alloc (Nat.le_refl _) _)
theorem RSt.putO (h:RSt w wr W n rs s o) (a:GRat):RSt w (Ma wr (w.heap.size+1+1+1) a) W n rs s a:=
 ⟨h.1.other (by omega) a,h.2.1.other (by omega) a,h.2.2.1.other (by omega) a,h.2.2.2.1.put a,iu h.2.2.2.2 (by omega) a⟩
theorem RSt.lt (h:RSt w wr W n rs s o):w.heap.size+1+1+1<wr.heap.size:=Blk3.lt h.2.2.2.1
end
attribute [local go_sem ↓] Go.wp_at_zero Go.wp_at_succ
theorem RL.get {w:World} {v:Value} {l:List GRat} (h:RL w v l) {k:Nat} (hk:k<l.length):
  ∃b off cap,v= .slice (some ⟨b,off,none⟩) l.length cap/\b<w.heap.size/\l.length<=9223372036854775807/\∀j (h:j<l.length),w.cell? ⟨b,off+j*3,none⟩=some (.bool l[j].neg)/\w.cell? ⟨b,off+j*3+1,none⟩=some (.string l[j].num)/\w.cell? ⟨b,off+j*3+2,none⟩=some (.string l[j].den)/\sB maxLen l[j]:=by
 obtain ⟨a,cap,rfl,h1,h2⟩:=h.open;rcases h2 with h2|⟨b,off,rfl,hb,h3⟩
 ·rw [h2] at hk;simp at hk
 exact ⟨b,off,cap,rfl,hb,h1,h3⟩
def AwS (w5:World) (b off:Nat) (q0 q20:GRat) (w':World):Prop:=Below w5.heap.size w5 w'/\w'.cell? ⟨b,off,none⟩=some (.bool q0.neg)/\w'.cell? ⟨b,off+1,none⟩=some (.string q0.num)/\w'.cell? ⟨b,off+2,none⟩=some (.string q0.den)/\w'.cell? ⟨b,off+3,none⟩=some (.bool q20.neg)/\w'.cell? ⟨b,off+3+1,none⟩=some (.string q20.num)/\w'.cell? ⟨b,off+3+2,none⟩=some (.string q20.den)/\w'.cell? ⟨b,off+6,none⟩=some (.bool q20.neg)/\w'.cell? ⟨b,off+6+1,none⟩=some (.string q20.num)/\w'.cell? ⟨b,off+6+2,none⟩=some (.string q20.den)
theorem AwS.drew {w5 W:World} {b off:Nat} {q0 q20:GRat} (h:AwS w5 b off q0 q20 W):AwS w5 b off q0 q20 W.drew:=⟨Below.drew h.1,h.2⟩
theorem AwS.next {w5 W V:World} {b off:Nat} {q0 q20:GRat} (h:AwS w5 b off q0 q20 W) (hb:b<w5.heap.size) (hV:Below W.heap.size W V):AwS w5 b off q0 q20 V:=by
 have hc:∀o,V.cell? ⟨b,o,none⟩=W.cell? ⟨b,o,none⟩:=fun o=>hV.cell (p:=⟨b,o,none⟩) (Nat.lt_of_lt_of_le hb h.1.size)
 obtain ⟨h0,h⟩:=h;refine ⟨h0.step hV,?_⟩;simp only [hc];exact h
end Go.Proofs.YtokmkopihhnggaaGreatDoor
