/- insolvencylaw18.awake: walked. -/
import Derived.Test.YtcgpghifhehlhaaGreatDoorGb4M
import Derived.Deep.RegionHeld3
import Derived.Test.YtcgpghifhehlhaaGreatDoorRw5M
import Derived.Test.YtcgpghifhehlhaaGreatDoorLawM
import Derived.Test.YtcgpghifhehlhaaGreatDoorGu1M
import Derived.Test.YtcgpghifhehlhaaGreatDoorOw3M
import Derived.Test.YtcgpghifhehlhaaGreatDoorVal1M
import Derived.Test.YtcgpghifhehlhaaGreatDoorRef11M
import Derived.Test.YtcgpghifhehlhaaGreatDoorAbTM
import Derived.Test.YtcgpghifhehlhaaGreatDoorAbBM
set_option linter.unusedVariables false
set_option maxHeartbeats 2000000
set_option maxRecDepth 100000
set_option linter.unusedSimpArgs false
set_option linter.unusedSectionVars false
namespace Go.Proofs.YtcgpghifhehlhaaGreatDoor
open Go.RowKit Go.Proofs.Tryz
attribute [local go_sem ↓] Go.wp_at_zero Go.wp_at_succ
theorem xJ:gR ((100:Int):Rat) [((70:Int):Rat),((50:Int):Rat),((20:Int):Rat)]=[((0:Int):Rat),((20:Int):Rat),((20:Int):Rat)]:=by decide+kernel
theorem RL.get {w:World} {v:Value} {l:List GRat} (h:RL w v l) {k:Nat} (hk:k<l.length):
  ∃b off cap,v= .slice (some ⟨b,off,none⟩) l.length cap/\b<w.heap.size/\l.length<=9223372036854775807/\∀j (h:j<l.length),w.cell? ⟨b,off+j*3,none⟩=some (.bool l[j].neg)/\w.cell? ⟨b,off+j*3+1,none⟩=some (.string l[j].num)/\w.cell? ⟨b,off+j*3+2,none⟩=some (.string l[j].den)/\sB maxLen l[j]:=by
 obtain ⟨a,cap,rfl,h1,h2⟩:=h.open;rcases h2 with h2|⟨b,off,rfl,hb,h3⟩
 ·rw [h2] at hk;simp at hk
 exact ⟨b,off,cap,rfl,hb,h1,h3⟩
def AwS (w5:World) (b off:Nat) (q0 q20:GRat) (w':World):Prop:=Below w5.heap.size w5 w'/\w'.cell? ⟨b,off,none⟩=some (.bool q0.neg)/\w'.cell? ⟨b,off+1,none⟩=some (.string q0.num)/\w'.cell? ⟨b,off+2,none⟩=some (.string q0.den)/\w'.cell? ⟨b,off+3,none⟩=some (.bool q20.neg)/\w'.cell? ⟨b,off+3+1,none⟩=some (.string q20.num)/\w'.cell? ⟨b,off+3+2,none⟩=some (.string q20.den)/\w'.cell? ⟨b,off+6,none⟩=some (.bool q20.neg)/\w'.cell? ⟨b,off+6+1,none⟩=some (.string q20.num)/\w'.cell? ⟨b,off+6+2,none⟩=some (.string q20.den)
theorem AwS.drew {w5 W:World} {b off:Nat} {q0 q20:GRat} (h:AwS w5 b off q0 q20 W):AwS w5 b off q0 q20 W.drew:=⟨Below.drew h.1,h.2⟩
theorem AwS.next {w5 W V:World} {b off:Nat} {q0 q20:GRat} (h:AwS w5 b off q0 q20 W) (hb:b<w5.heap.size) (hV:Below W.heap.size W V):AwS w5 b off q0 q20 V:=by
 have hc:∀o,V.cell? ⟨b,o,none⟩=W.cell? ⟨b,o,none⟩:=fun o=>hV.cell (p:=⟨b,o,none⟩) (Nat.lt_of_lt_of_le hb h.1.size)
 obtain ⟨h0,h⟩:=h;refine ⟨h0.step hV,?_⟩;simp only [hc];exact h
theorem pU (w:World):Calls prog 13 #[] w fun e w'=>e= .returned (.bool true)/\Below w.heap.size w w':=by
 have I1:=hid (fun w=>g9 100 w (by decide) (by decide));have I2:=hid (fun w=>g9 70 w (by decide) (by decide));have I3:=hid (fun w=>g9 50 w (by decide) (by decide));have I4:=hid (fun w=>g9 20 w (by decide) (by decide));have I5:=hid (fun w=>g9 0 w (by decide) (by decide));have b100:sB 1 (enc ((100:Int):Rat)):=eH ⟨by decide,by decide⟩;have b70:sB 1 (enc ((70:Int):Rat)):=eH ⟨by decide,by decide⟩;have b50:sB 1 (enc ((50:Int):Rat)):=eH ⟨by decide,by decide⟩;have b20:sB 1 (enc ((20:Int):Rat)):=eH ⟨by decide,by decide⟩;have R:=hid (fun (v:Value) (w:World) (h:RL w v [enc ((70:Int):Rat),enc ((50:Int):Rat),enc ((20:Int):Rat)])=>pT (enc ((100:Int):Rat)) v _ 1 w (by decide) (by decide) b100 (by decide) (by intro r hr;simp at hr;rcases hr with rfl|rfl|rfl;exact b70;exact b50;exact b20) h);have e1:(gR (qOf (enc ((100:Int):Rat))) (qL [enc ((70:Int):Rat),enc ((50:Int):Rat),enc ((20:Int):Rat)])).map enc=[enc ((0:Int):Rat),enc ((20:Int):Rat),enc ((20:Int):Rat)]:=by
  simp only [qL,List.map_cons,List.map_nil,dK];rw [xJ];rfl
 rw [e1] at R;have hsz:=hid (show sB maxLen (enc ((70:Int):Rat))/\sB maxLen (enc ((50:Int):Rat))/\sB maxLen (enc ((20:Int):Rat)) from ⟨qZ b70 (by decide),qZ b50 (by decide),qZ b20 (by decide)⟩);generalize enc ((100:Int):Rat)=q100 at *
 generalize enc ((70:Int):Rat)=q70 at *
 generalize enc ((50:Int):Rat)=q50 at *
 generalize enc ((20:Int):Rat)=q20 at *
 generalize enc ((0:Int):Rat)=q0 at *
 clear e1 b100 b70 b50 b20;unfold aN at I1 I2 I3 I4 I5 R;go_enter func13,ntmps13
 go_wp2_with fail
 refine Calls.mono (I1.out _) ?_;rintro e w1 ⟨rfl,hb1⟩;go_wp2_with fail
 refine Calls.mono (I2.out _) ?_;rintro e w2 ⟨rfl,hb2⟩;go_wp2_with fail
 refine Calls.mono (I3.out _) ?_;rintro e w3 ⟨rfl,hb3⟩;go_wp2_with fail
 refine Calls.mono (I4.out _) ?_;rintro e w4 ⟨rfl,hb4⟩;have hb:=hid (hb1.step (hb2.step (hb3.step hb4)));clear hb1 hb2 hb3 hb4;have hRL:RL (w4.alloc (.cells #[.bool q70.neg,.string q70.num,.string q70.den,.bool q50.neg,.string q50.num,.string q50.den,.bool q20.neg,.string q20.num,.string q20.den] 32)) (.slice (some ⟨w4.heap.size,0,none⟩) 3 3) [q70,q50,q20]:=by
  refine OwnR.reads (n:=3) ⟨rfl,?_⟩ (by decide) ?_
  ·unfold Own;rw [heap_alloc_new];congr 2;apply Array.ext';simp [List.range_succ,iS,List.getD]
  intro r hr;simp at hr;rcases hr with rfl|rfl|rfl
  ·exact hsz.out.1
  ·exact hsz.out.2.1
  exact hsz.out.2.2
 have R1:=hid (R.out _ _ hRL);clear hRL;go_wp2_with fail
 refine Calls.mono R1.out ?_;rintro e w5 ⟨u,rfl,hu,hb5⟩;obtain ⟨b,off,cap,rfl,hbb,-,h3⟩:=hu.get (k:=0) (by simp);have f0:=h3 0 (by simp);have f1:=h3 1 (by simp);have f2:=h3 2 (by simp);simp only [List.getElem_cons_zero,List.getElem_cons_succ,Nat.zero_mul,Nat.one_mul,Nat.add_zero,Nat.reduceMul] at f0 f1 f2;have hbw:=hid (Below.step (hb.out.alloc hb.out.size _) hb5);obtain ⟨a0,a1,a2,-⟩:=f0;obtain ⟨a3,a4,a5,-⟩:=f1;obtain ⟨a6,a7,a8,-⟩:=f2;clear hu h3 hb5 hb R1 R;have hS:AwS w5 b off q0 q20 w5:=⟨Below.refl _ _,a0,a1,a2,a3,a4,a5,a6,a7,a8⟩;have HS:=hid (fun (W V:World) (h:AwS w5 b off q0 q20 W) (hb:Below W.heap.size W V)=>h.next hbb hb);go_wp2_with fail
 go_region_held3 (fun w'=>w'.cell? ⟨b,off,none⟩=some (.bool q0.neg)/\w'.cell? ⟨b,off+1,none⟩=some (.string q0.num)/\w'.cell? ⟨b,off+2,none⟩=some (.string q0.den)/\w'.cell? ⟨b,off+3,none⟩=some (.bool q20.neg)/\w'.cell? ⟨b,off+3+1,none⟩=some (.string q20.num)/\w'.cell? ⟨b,off+3+2,none⟩=some (.string q20.den)/\w'.cell? ⟨b,off+6,none⟩=some (.bool q20.neg)/\w'.cell? ⟨b,off+6+1,none⟩=some (.string q20.num)/\w'.cell? ⟨b,off+6+2,none⟩=some (.string q20.den)) (go_keep)
  (first
   |(go_at_call_of 33 (Value.int .i64 0);refine Calls.mono (I5.out _) ?_;rintro e wn ⟨rfl,hbn⟩;(first|replace hS:=HS.out _ _ hS hbn|replace hS:=HS.out _ _ hS.drew hbn);clear a0 a1 a2 a3 a4 a5 a6 a7 a8;obtain ⟨-,a0,a1,a2,a3,a4,a5,a6,a7,a8⟩:=id hS)
   |(go_at_call_of 33 (Value.int .i64 20);refine Calls.mono (I4.out _) ?_;rintro e wn ⟨rfl,hbn⟩;(first|replace hS:=HS.out _ _ hS hbn|replace hS:=HS.out _ _ hS.drew hbn);clear a0 a1 a2 a3 a4 a5 a6 a7 a8;obtain ⟨-,a0,a1,a2,a3,a4,a5,a6,a7,a8⟩:=id hS))
 go_wp2
 go_ret
 exact ⟨rfl,Below.step hbw.out hS.1⟩
end Go.Proofs.YtcgpghifhehlhaaGreatDoor
namespace Go.Proofs.YtcgpghifhehlhaaGreatDoor
open Go Go.RowKit Go.Proofs.Tryz
theorem tR {P:Program} {f:FuncId} {args:List A1} {vs:List Value} {w:World} (h:ch P f args (one (.bool true))) (hd:cz (eP w) vs args):
  Calls P f vs.toArray w fun e w'=>e= .returned (.bool true)/\Below w.heap.size w w':=
 (h.2 w (LT w.heap.size) vs (fun _ h=>h) hd).mono fun e w' ⟨v,he,hb,hv⟩=>by
  have:v= .bool true:=hv.1;subst this;exact ⟨he,hb⟩
theorem fH {α:Type} {enc:α->List C} {ok:α->Prop} {W:World} {v:Value} {a:α} {c:C} (o:rC enc ok W (LT W.heap.size) [v] a) (he:enc a=[c]):bb (eP W) v (.one c)/\ok a:=by
 obtain ⟨h,k⟩:=o;rw [he] at h;exact ⟨h.1,k⟩
theorem bK:ch prog 13 [] (one (.bool true)):=
 eE (iv func13 (by decide) rfl) [] (.bool true) pU
end Go.Proofs.YtcgpghifhehlhaaGreatDoor
namespace Go.Proofs.YtcgpghifhehlhaaGreatDoor
open Go Go.RowKit Go.ChangeShapes Go.WideShapes Go.ChangeAt Go.Proofs.Tryz
theorem j3:fD prog 5 (rC (fun n:Nat=>[.lit (.int .u8 n)]) (·<256)):=by
 intro H enc W fuel cs x h;obtain ⟨n,rfl,hn⟩:=vj underlying5 H enc W fuel cs x h;exact ⟨n,⟨⟨rfl,rfl⟩,trivial⟩,hn⟩
theorem dP:fD prog 68 (rC vB (·<65536)):=by
 intro H enc W fuel cs x h;obtain ⟨n,rfl,hn⟩:=tE underlying68 H enc W fuel cs x h;exact ⟨n,⟨⟨rfl,rfl⟩,trivial⟩,hn⟩
theorem Tryz.cellsU16:prog.cellsOf 68=1:=by kernel_rfl
theorem Tryz.cellsN4:prog.cellsOf 92=4:=by kernel_rfl
theorem Tryz.cellsN3:prog.cellsOf 93=3:=by kernel_rfl
def xK (x:N4):Prop:=x.a<65536/\x.b<65536/\x.c<65536/\x.d<65536
def tS (x:N3):Prop:=x.a<65536/\x.b<65536/\x.c<65536
theorem tT:fD prog 92 (rC cN4 xK):=by
 intro H enc W fuel cs x h;obtain ⟨xs,m,_,_,hl,hxs,hf⟩:=DataW.trod_array underlying92 h;rw [Tryz.cellsN4] at hl;simp only [Tryz.cellsU16] at hf;match cs,hl with
 |[c0,c1,c2,c3],_=>
  have h0:=hf 0 (by decide);rw [List.getElem?_eq_getElem (by omega)] at h0;have h1:=hf 1 (by decide);rw [List.getElem?_eq_getElem (by omega)] at h1;have h2:=hf 2 (by decide);rw [List.getElem?_eq_getElem (by omega)] at h2;have h3:=hf 3 (by decide);rw [List.getElem?_eq_getElem (by omega)] at h3;obtain ⟨a0,k0,o0⟩:=dP H enc W _ _ _ h0;obtain ⟨a1,k1,o1⟩:=dP H enc W _ _ _ h1;obtain ⟨a2,k2,o2⟩:=dP H enc W _ _ _ h2;obtain ⟨a3,k3,o3⟩:=dP H enc W _ _ _ h3;replace k0:denVs (eP W) [c0] _:=k0;replace k1:denVs (eP W) [c1] _:=k1;replace k2:denVs (eP W) [c2] _:=k2;replace k3:denVs (eP W) [c3] _:=k3;exact ⟨⟨a0,a1,a2,a3⟩,denVs.append k0 (denVs.append k1 (denVs.append k2 k3)),o0,o1,o2,o3⟩
theorem rd:fD prog 22 (rC (cSl 4 cN4) (nO xK)):=pt underlying22 Tryz.cellsN4 (by decide) r7 tT
theorem tU:fD prog 93 (rC cN3 tS):=by
 intro H enc W fuel cs x h;obtain ⟨xs,m,_,_,hl,hxs,hf⟩:=DataW.trod_array underlying93 h;rw [Tryz.cellsN3] at hl;simp only [Tryz.cellsU16] at hf;match cs,hl with
 |[c0,c1,c2],_=>
  have h0:=hf 0 (by decide);rw [List.getElem?_eq_getElem (by omega)] at h0;have h1:=hf 1 (by decide);rw [List.getElem?_eq_getElem (by omega)] at h1;have h2:=hf 2 (by decide);rw [List.getElem?_eq_getElem (by omega)] at h2;obtain ⟨a0,k0,o0⟩:=dP H enc W _ _ _ h0;obtain ⟨a1,k1,o1⟩:=dP H enc W _ _ _ h1;obtain ⟨a2,k2,o2⟩:=dP H enc W _ _ _ h2;replace k0:denVs (eP W) [c0] _:=k0;replace k1:denVs (eP W) [c1] _:=k1;replace k2:denVs (eP W) [c2] _:=k2;exact ⟨⟨a0,a1,a2⟩,denVs.append k0 (denVs.append k1 k2),o0,o1,o2⟩
theorem lY:fD prog 23 (rC (cSl 3 cN3) (nO tS)):=pt underlying23 Tryz.cellsN3 (by decide) nU tU
end Go.Proofs.YtcgpghifhehlhaaGreatDoor
namespace Go.Proofs.YtcgpghifhehlhaaGreatDoor
open Go Go.RowKit Go.Proofs.Tryz


structure GCls where
 est:Int
 rank:Int
 small:Bool
 claims:List Int


theorem y8 {q:Rat} (h:0<=q):0<=cK q:=by unfold cK fV;grind
def prP (n:Int) (E:Int->Bool) (p:GPart):Prop:=(p.claim= -1/\p.capped=true∨0<=p.claim/\p.claim<n/\E p.claim=false)/\0<=cK (qOf p.cap)
def y9 (n:Int) (pre:List cw) (a:cw):Prop:=a.length<=24/\(∀t∈a,t.length<=24)/\∀p∈a.flatten,prP n (fun c=>mbE c pre) p
def wl (e:GEst):Prop:=∀i (h:i<e.agrs.length),y9 e.claims.length (e.agrs.take i) e.agrs[i]
theorem wq (c:Int):∀l,frP c l= !mbT c l
 |[]=>rfl
 |p::l=>by
  simp only [frP,mbT,wq c l];by_cases h:p.claim=c<;>simp [h]
theorem ws (c:Int):∀a,frT c a= !mbA c a
 |[]=>rfl
 |t::a=>by
  simp only [frT,mbA,ws c a,wq c t];cases mbT c t<;>simp
theorem wt (c:Int):∀l,frA c l= !mbE c l
 |[]=>rfl
 |a::l=>by
  simp only [frA,mbE,wt c l,ws c a];cases mbA c a<;>simp
def tOK (Q:GPart->Prop) (T:T3):Prop:=(∀p∈T.a,Q p)/\(∀p∈T.b,Q p)/\∀p∈T.c,Q p
theorem sv {Q:GPart->Prop} (T:T3) (x:Nat) (p:GPart) (h:tOK Q T) (hp:Q p):tOK Q (T.put x p):=by
 unfold T3.put;have key:∀l:List GPart,(∀q∈l,Q q)->∀q∈l++[p],Q q:=fun l hl q hq=>by
  rcases List.mem_append.1 hq with h1|h1
  ·exact hl q h1
  obtain rfl:q=p:=by simpa using h1
  exact hp
 split
 ·exact ⟨key _ h.1,h.2.1,h.2.2⟩
 split
 ·exact ⟨h.1,key _ h.2.1,h.2.2⟩
 exact ⟨h.1,h.2.1,key _ h.2.2⟩
theorem sw {Q:GPart->Prop} (agrs:List cw) (p:N3) (n:Nat) (hQ:∀i,i<n->frA i agrs=true->Q (bgP p i)):∀(l:List GClaim) (i:Nat) (T:T3),i+l.length<=n->tOK Q T->tOK Q (bgL agrs p l i T)
 |[],_,_,_,h=>h
 |_::l,i,T,hl,h=>by
  rw [List.length_cons] at hl;refine sw agrs p n hQ l (i+1) _ (by omega) ?_;unfold bgS;split
  ·exact h
  split
  ·exact sv _ _ _ h (hQ i (by omega) ‹_›)
  exact h
theorem sA (n:Nat):0<=cK (qOf (enc (((n:Nat):Int):Rat))):=by
 rw [dK];exact y8 (by exact_mod_cast Nat.zero_le n)
theorem wu:0<=cK (qOf gZ):=by rw [vn];exact y8 (by grind)
theorem sC (x:Nat):0<=cK (qOf (enc (cY x))):=by rw [dK];exact y8 (qJ x)
theorem xL (agrs:List cw) (p:N3) (n i:Nat) (hi:i<n) (hf:frA i agrs=true):prP n (fun c=>mbE c agrs) (bgP p i):=by
 rw [wt] at hf;have hb:mbE (i:Int) agrs=false:=by simpa using hf
 unfold bgP;split
 ·exact ⟨.inr ⟨by simp,by simp;omega,hb⟩,sA _⟩
 exact ⟨.inr ⟨by simp,by simp;omega,hb⟩,wu⟩
theorem wv (e:GEst) (p:N3) (h:e.claims.length<=6):y9 e.claims.length e.agrs (bgN e p):=by
 have h0:=vA e p h;refine ⟨by omega,fun t ht=>by have:=h0.2 t ht;omega,fun q hq=>?_⟩;have h1:tOK (prP e.claims.length (fun c=>mbE c e.agrs)) (bgT p (bgL e.agrs p e.claims 0 ⟨[],[],[]⟩)):=by
  have h2:=sw (Q:=prP e.claims.length (fun c=>mbE c e.agrs)) e.agrs p e.claims.length (fun i hi hf=>xL e.agrs p _ i hi hf) e.claims 0 ⟨[],[],[]⟩ (by omega) ⟨by simp,by simp,by simp⟩;unfold bgT;split
  ·exact sv _ _ _ h2 ⟨.inl ⟨rfl,rfl⟩,sA _⟩
  exact h2
 obtain ⟨t,ht,hq⟩:=List.mem_flatten.1 hq;simp only [bgN,List.mem_cons,List.not_mem_nil,or_false] at ht;rcases ht with rfl|rfl|rfl
 ·exact h1.1 q hq
 ·exact h1.2.1 q hq
 exact h1.2.2 q hq
def vC (size i:Nat) (c:GClaim):Prop:=c.holder≠(i:Int)/\ -1<=c.holder/\c.holder<(size:Int)/\0<=c.rank/\c.rank<=7/\0<=cK (qOf c.amount)
def vE (size i:Nat) (e:GEst):Prop:=0<=cK (qOf e.cash)/\(∀c∈e.claims,vC size i c)/\wl e
def n6 (Pr:Nat->GEst->Prop) (es:List GEst):Prop:=∀i (h:i<es.length),Pr i es[i]
theorem pV {Pr:Nat->GEst->Prop} {es:List GEst} (h:n6 Pr es) (j:Nat) (x:GEst) (hx:j<es.length->Pr j x):n6 Pr (es.set j x):=fun i hi=>by
 rw [List.getElem_set];split
 ·rename_i hji;subst hji;exact hx (by simpa using hi)
 exact h i (by simpa using hi)
theorem sD (es:List GEst) (j:Nat) (h:j<es.length):es.getD j bM=es[j]:=by
 rw [List.getD_eq_getElem?_getD,List.getElem?_eq_getElem h];rfl
theorem j4 {α β:Type} {Pr:β->Prop} (f:β->α->β) (hf:∀b x,Pr b->Pr (f b x)):∀(l:List α) (b:β),Pr b->Pr (l.foldl f b)
 |[],_,h=>h
 |x::l,b,h=>j4 f hf l (f b x) (hf b x h)
def vE0 (size i:Nat) (e:GEst):Prop:=0<=cK (qOf e.cash)/\(∀c∈e.claims,vC size i c)/\e.agrs=[]
theorem tV (size:Nat) (x:N4):vC size (x.a%size) (ap size x):=by
 unfold ap vC;refine ⟨?_,?_,?_,?_,?_,sC _⟩;all_goals dsimp only
 ·unfold dF;split<;>omega
 ·unfold dF;split<;>omega
 ·unfold dF;split<;>omega
 ·omega
 omega
theorem re (size:Nat) (es:List GEst) (x:N4) (h:n6 (vE0 size) es):n6 (vE0 size) (aJ size es x):=by
 unfold aJ;split
 ·exact h
 refine pV h _ _ fun hj=>?_
 rw [sD _ _ hj];obtain ⟨h1,h2,h3⟩:=h _ hj;refine ⟨h1,fun c hc=>?_,h3⟩;rcases List.mem_append.1 hc with hc|hc
 ·exact h2 c hc
 obtain rfl:c=ap size x:=by simpa using hc
 exact tV size x
theorem xM (size i:Nat) (cash:List Nat):vE0 size i (cZ cash i):=by
 refine ⟨?_,by simp [cZ],rfl⟩;unfold cZ;dsimp only;split
 ·exact sC _
 exact wu
theorem rf (e:GEst) (a:cw) (h:wl e) (ha:y9 e.claims.length e.agrs a):wl ⟨e.cash,e.claims,e.agrs++[a]⟩:=fun i hi=>by
 have hi':i<e.agrs.length+1:=by simpa using hi
 by_cases hlt:i<e.agrs.length
 ·have h1:=h i hlt;simp only [List.getElem_append_left hlt,List.take_append_of_le_length (Nat.le_of_lt hlt)];exact h1
 obtain rfl:i=e.agrs.length:=by omega
 simp only [List.take_left,List.getElem_concat_length];exact ha
theorem xN (size:Nat) (es:List GEst) (p:N3) (h:(∀e∈es,okB e)/\n6 (vE size) es):(∀e∈fM size es p,okB e)/\n6 (vE size) (fM size es p):=by
 refine ⟨eX size es p h.1,?_⟩;unfold fM;split
 ·refine pV h.2 _ _ fun hj=>?_
  rw [sD _ _ hj];obtain ⟨h1,h2,h3⟩:=h.2 _ hj;exact ⟨h1,h2,rf _ _ h3 (wv _ p (h.1 _ (List.getElem_mem hj)).1)⟩
 exact h.2
theorem wy (n : Nat) (cash : List Nat) (list : List N4) (pools : List N3) : n6 (vE (1 + n % 4)) (iJ n cash list pools) := by
  unfold iJ
  refine (j4 (Pr := fun es => (∀ e ∈ es, okB e) ∧ n6 (vE (1 + n % 4)) es) _ (xN _) _ _ ⟨fun e he => ?_, ?_⟩).2
  · have h := gn (Pr := okC) (aJ (1 + n % 4)) (bN _) list _ (fun e he => by
      obtain ⟨i, _, rfl⟩ := List.mem_map.1 he
      exact ⟨by simp [cZ], rfl⟩) e he
    exact ⟨h.1, by rw [h.2]; simp, by rw [h.2]; simp⟩
  have h := j4 (Pr := n6 (vE0 (1 + n % 4))) (aJ (1 + n % 4)) (re _) list ((List.range (1 + n % 4)).map (cZ cash)) (fun i hi => by
    have h1 := xM (1 + n % 4) i cash
    simpa using h1)
  intro i hi
  obtain ⟨h1, h2, h3⟩ := h i hi
  exact ⟨h1, h2, fun k hk => by rw [h3] at hk; simp at hk⟩


end Go.Proofs.YtcgpghifhehlhaaGreatDoor
namespace Go.Proofs.YtcgpghifhehlhaaGreatDoor
open Go Go.RowKit Go.ChangeShapes Go.WideShapes Go.ChangeAt Go.Proofs.Tryz

end Go.Proofs.YtcgpghifhehlhaaGreatDoor
namespace Go.Proofs.YtcgpghifhehlhaaGreatDoor
open Go Go.RowKit Go.Proofs.Tryz
section
variable {P : Program} {e : En} {k0 : Kx} {N : Nat} {st : St} {a : Act} {w : World} {Q : Exit → St → Prop} {c : Code}
end
theorem pX {P:Program} {f:FuncId} {args args':List A1} {H:Hp} {nx:Nat} {R:AV->Hp->Nat->Prop} (h:dk P f args H nx R) (hd:∀κ vs,cz κ vs args'->cz κ vs args):dk P f args' H nx R:=
 ⟨h.1,fun e σ w vs hW hv=>h.2 e σ w vs hW (hd _ _ hv)⟩
end Go.Proofs.YtcgpghifhehlhaaGreatDoor
