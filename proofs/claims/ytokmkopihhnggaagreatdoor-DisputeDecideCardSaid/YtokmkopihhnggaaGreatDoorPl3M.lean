/- Plain law: a group that is built is valid; its legs are found where they stand, and there only. No walk. -/
import Derived.Test.YtokmkopihhnggaaGreatDoorBl5M
import Derived.Test.YtokmkopihhnggaaGreatDoorRw5M
import Derived.Test.YtokmkopihhnggaaGreatDoorCs1M
import Derived.Test.YtokmkopihhnggaaGreatDoorAbBM
import Derived.Test.YtokmkopihhnggaaGreatDoorDc2M
import Derived.Test.YtokmkopihhnggaaGreatDoorNumM
import Derived.Deep.DeepCutAuto
import Derived.Deep.RegionHeld3
import Derived.Test.YtokmkopihhnggaaGreatDoorFewM
import Derived.Test.YtokmkopihhnggaaGreatDoorLawM
set_option linter.unusedVariables false
set_option linter.unusedSimpArgs false
set_option linter.unusedSectionVars false
namespace Go.Proofs.YtokmkopihhnggaaGreatDoor
open Go Go.RowKit
def tOK (Q:GPart->Prop) (T:T3):Prop:=(∀p∈T.a,Q p)/\(∀p∈T.b,Q p)/\∀p∈T.c,Q p
theorem LC {Q:GPart->Prop} (T:T3) (x:Nat) (p:GPart) (h:tOK Q T) (hp:Q p):tOK Q (T.put x p):=by
 unfold T3.put;have key:∀l:List GPart,(∀q∈l,Q q)->∀q∈l++[p],Q q:=fun l hl q hq=>by
  rcases List.mem_append.1 hq with h1|h1
  ·exact hl q h1
  obtain rfl:q=p:=by simpa using h1
  exact hp
 split
 ·exact ⟨key _ h.1,h.2.1,h.2.2⟩
 split
 ·exact ⟨h.1,key _ h.2.1,h.2.2⟩
 exact ⟨h.1,h.2.1,key _ h.2.2⟩
theorem LD {Q:GPart->Prop} (agrs:List bR) (p:N3) (n:Nat) (hQ:∀i,i<n->frA i agrs=true->Q (bgP p i)):∀(l:List GClaim) (i:Nat) (T:T3),i+l.length<=n->tOK Q T->tOK Q (bgL agrs p l i T)
 |[],_,_,_,h=>h
 |_::l,i,T,hl,h=>by
  rw [List.length_cons] at hl;refine LD agrs p n hQ l (i+1) _ (by omega) ?_;unfold bgS;split
  ·exact h
  split
  ·exact LC _ _ _ h (hQ i (by omega) ‹_›)
  exact h
theorem Jo (es:List GEst) (j:Nat) (h:j<es.length):es.getD j gr=es[j]:=by
 rw [List.getD_eq_getElem?_getD,List.getElem?_eq_getElem h];rfl
theorem zr {α β:Type} {Pr:β->Prop} (f:β->α->β) (hf:∀b x,Pr b->Pr (f b x)):∀(l:List α) (b:β),Pr b->Pr (l.foldl f b)
 |[],_,h=>h
 |x::l,b,h=>zr f hf l (f b x) (hf b x h)


end Go.Proofs.YtokmkopihhnggaaGreatDoor
namespace Go.Proofs.YtokmkopihhnggaaGreatDoor
open Go.RowKit
def RL (w:World) (v:Value) (l:List GRat):Prop:=aH 3 IW w (LT w.heap.size) [v] l
theorem RL.below {w w':World} {v:Value} {l:List GRat} (h:RL w v l) (hb:Below w.heap.size w w'):RL w' v l:=(aX Lc).below h hb hb.size
theorem RL.drew {w:World} {v:Value} {l:List GRat} (h:RL w v l):RL w.drew v l:=h
theorem RL.open {w:World} {v:Value} {l:List GRat} (h:RL w v l):
  ∃a cap,v= .slice a l.length cap/\l.length<=9223372036854775807/\(l=[]∨∃b off,a=some ⟨b,off,none⟩/\b<w.heap.size/\∀j (h:j<l.length),w.cell? ⟨b,off+j*3,none⟩=some (.bool l[j].neg)/\w.cell? ⟨b,off+j*3+1,none⟩=some (.string l[j].num)/\w.cell? ⟨b,off+j*3+2,none⟩=some (.string l[j].den)/\sB maxLen l[j]):=by
 obtain ⟨a,cap,hv,h1,h2,h3,h4⟩:=h;simp only [List.cons.injEq,and_true] at hv;refine ⟨a,cap,hv,eB h1 h2,?_⟩;rcases h4 with h4|⟨b,off,h5,h6,h7⟩
 ·exact .inl h4
 refine .inr ⟨b,off,h5,h6,fun j hj=>?_⟩;obtain ⟨cs,k1,k2,rfl,k3,k4⟩:=h7 j hj;exact ⟨k2 0 (by decide),k2 1 (by decide),k2 2 (by decide),k3,k4⟩
theorem Mw (w:World) (S:Nat->Prop) (r:GRat) (h:sB maxLen r):IW w S [.bool r.neg,.string r.num,.string r.den] r:=⟨rfl,h.1,h.2⟩
def Jp (rs:List GRat) (j:Nat):Value:=if j%3=0 then .bool (rs.getD (j/3) gZ).neg else if j%3=1 then .string (rs.getD (j/3) gZ).num else .string (rs.getD (j/3) gZ).den
def OwnR (w:World) (g n:Nat) (rs:List GRat):Prop:=rs.length=n/\Own w g 32 (n*3) (Jp rs)
theorem Mx (rs:List GRat) (k:Nat):Jp rs (k*3)= .bool (rs.getD k gZ).neg:=by
 unfold Jp;rw [if_pos (by omega),show k*3/3=k by omega]
theorem My (rs:List GRat) (k:Nat):Jp rs (k*3+1)= .string (rs.getD k gZ).num:=by
 unfold Jp;rw [if_neg (by omega),if_pos (by omega),show (k*3+1)/3=k by omega]
theorem Mz (rs:List GRat) (k:Nat):Jp rs (k*3+2)= .string (rs.getD k gZ).den:=by
 unfold Jp;rw [if_neg (by omega),if_neg (by omega),show (k*3+2)/3=k by omega]
theorem OwnR.facts {w:World} {g n:Nat} {rs:List GRat} (h:OwnR w g n rs) {k:Nat} (hk:k<n):
  w.cell? ⟨g,k*3,none⟩=some (.bool (rs.getD k gZ).neg)/\w.cell? ⟨g,k*3+1,none⟩=some (.string (rs.getD k gZ).num)/\w.cell? ⟨g,k*3+2,none⟩=some (.string (rs.getD k gZ).den)/\(∀j,w.frozen? ⟨g,j,none⟩=false)/\g<w.heap.size:=by
 have h1:=h.2.cell (j:=k*3) (by omega);have h2:=h.2.cell (j:=k*3+1) (by omega);have h3:=h.2.cell (j:=k*3+2) (by omega);rw [Mx] at h1;rw [My] at h2;rw [Mz] at h3;exact ⟨h1,h2,h3,fun j=>h.2.frozen j,h.2.lt⟩
theorem OwnR.put {w:World} {g n:Nat} {rs:List GRat} (h:OwnR w g n rs) {k:Nat} (hk:k<n) (r:GRat):
  OwnR (((w.setCell ⟨g,k*3,none⟩ (.bool r.neg)).setCell ⟨g,k*3+1,none⟩ (.string r.num)).setCell ⟨g,k*3+2,none⟩ (.string r.den)) g n (rs.set k r):=by
 refine ⟨by rw [List.length_set];exact h.1,(((h.2.set _ _).set _ _).set _ _).congr fun j hj=>?_⟩;have hk':k<rs.length:=by rw [h.1];exact hk
 unfold upd;by_cases e2:j=k*3+2
 ·rw [if_pos e2,e2,Mz];simp [List.getD,hk']
 rw [if_neg e2];by_cases e1:j=k*3+1
 ·rw [if_pos e1,e1,My];simp [List.getD,hk']
 rw [if_neg e1];by_cases e0:j=k*3
 ·rw [if_pos e0,e0,Mx];simp [List.getD,hk']
 rw [if_neg e0];have hne:¬k=j/3:=by omega
 unfold Jp;simp [List.getD,hne]
theorem OwnR.below {w w':World} {g n:Nat} {rs:List GRat} (h:OwnR w g n rs) (hb:Below w.heap.size w w'):OwnR w' g n rs:=⟨h.1,h.2.below hb h.2.lt⟩
theorem OwnR.alloc {w:World} {g n:Nat} {rs:List GRat} (h:OwnR w g n rs) (o:Obj):OwnR (w.alloc o) g n rs:=⟨h.1,h.2.alloc o⟩
theorem OwnR.drew {w:World} {g n:Nat} {rs:List GRat} (h:OwnR w g n rs):OwnR w.drew g n rs:=h
theorem OwnR.other {w:World} {g g' n:Nat} {rs:List GRat} (h:OwnR w g n rs) (hne:g'≠g) (r:GRat):OwnR (Ma w g' r) g n rs:=⟨h.1,((h.2.other hne _ _).other hne _ _).other hne _ _⟩
theorem OwnR.new (w:World) (n:Nat):OwnR (w.alloc (.cells (madeCells #[.bool false,.string {data:= #[]},.string {data:= #[]}] (n*3)) 32)) w.heap.size n (List.replicate n gZ):=by
 refine ⟨by simp,?_⟩;unfold Own;rw [heap_alloc_new];congr 2;apply Array.ext
 ·simp [madeCells]
 intro i h1 h2;have hi:i<n*3:=by simpa using h2
 have e:(List.replicate n gZ).getD (i/3) gZ=gZ:=by simp [List.getD,List.getElem?_replicate];split<;>rfl
 simp only [madeCells,Array.getElem_map,Array.getElem_range,Jp,e];have:i%3=0∨i%3=1∨i%3=2:=by omega
 rcases this with h|h|h<;>simp [h]<;>rfl
theorem OwnR.reads {w:World} {g n:Nat} {rs:List GRat} (h:OwnR w g n rs) (hn:n<=maxLen) (hs:∀r∈rs,sB maxLen r):RL w (.slice (some ⟨g,0,none⟩) n n) rs:=by
 refine ⟨some ⟨g,0,none⟩,n,by rw [h.1],by rw [h.1];exact Nat.le_refl _,hn,by simp,.inr ⟨g,0,rfl,h.2.lt,fun j hj=>⟨[.bool rs[j].neg,.string rs[j].num,.string rs[j].den],rfl,?_,Mw _ _ _ (hs _ (List.getElem_mem hj))⟩⟩⟩;intro c hc;obtain ⟨f0,f1,f2,_⟩:=h.facts (k:=j) (by rw [←h.1];exact hj);have e:rs.getD j gZ=rs[j]:=by simp [List.getD,hj]
 rw [e] at f0 f1 f2;have:c=0∨c=1∨c=2:=by omega
 rcases this with rfl|rfl|rfl
 ·simpa using f0
 ·simpa using f1
 simpa using f2
attribute [local go_sem ↓] Go.wp_at_zero Go.wp_at_succ
def RSt (w wr:World) (W:GRat) (n:Nat) (rs:List GRat) (s o:GRat):Prop:=
 Bx wr w.heap.size W/\OwnR wr (w.heap.size+1) n rs/\Bx wr (w.heap.size+1+1) s/\Bx wr (w.heap.size+1+1+1) o/\Below w.heap.size w wr
section
variable {w wr : World} {W : GRat} {n : Nat} {rs : List GRat} {s o : GRat}
theorem RSt.next {w':World} (h:RSt w wr W n rs s o) (hb:Below wr.heap.size wr w'):RSt w w' W n rs s o:=⟨h.1.below hb,h.2.1.below hb,h.2.2.1.below hb,h.2.2.2.1.below hb,h.2.2.2.2.step hb⟩
theorem RSt.drew (h:RSt w wr W n rs s o):RSt w wr.drew W n rs s o:=⟨h.1.drew,h.2.1.drew,h.2.2.1.drew,h.2.2.2.1.drew,Below.drew h.2.2.2.2⟩
theorem RSt.alloc (h:RSt w wr W n rs s o) (b:Obj):RSt w (wr.alloc b) W n rs s o:=h.next ((Below.refl _ _).alloc (Nat.le_refl _) _)
theorem RSt.putO (h:RSt w wr W n rs s o) (a:GRat):RSt w (Ma wr (w.heap.size+1+1+1) a) W n rs s a:=
 ⟨h.1.other (by omega) a,h.2.1.other (by omega) a,h.2.2.1.other (by omega) a,h.2.2.2.1.put a,iu h.2.2.2.2 (by omega) a⟩
theorem RSt.lt (h:RSt w wr W n rs s o):w.heap.size+1+1+1<wr.heap.size:=Blk3.lt h.2.2.2.1
end
attribute [local go_sem ↓] Go.wp_at_zero Go.wp_at_succ
theorem RL.get {w:World} {v:Value} {l:List GRat} (h:RL w v l) {k:Nat} (hk:k<l.length):
  ∃b off cap,v= .slice (some ⟨b,off,none⟩) l.length cap/\b<w.heap.size/\l.length<=9223372036854775807/\∀j (h:j<l.length),w.cell? ⟨b,off+j*3,none⟩=some (.bool l[j].neg)/\w.cell? ⟨b,off+j*3+1,none⟩=some (.string l[j].num)/\w.cell? ⟨b,off+j*3+2,none⟩=some (.string l[j].den)/\sB maxLen l[j]:=by
 obtain ⟨a,cap,rfl,h1,h2⟩:=h.open;rcases h2 with h2|⟨b,off,rfl,hb,h3⟩
 ·rw [h2] at hk;simp at hk
 exact ⟨b,off,cap,rfl,hb,h1,h3⟩
def AwS (w5:World) (b off:Nat) (q0 q20:GRat) (w':World):Prop:=Below w5.heap.size w5 w'/\w'.cell? ⟨b,off,none⟩=some (.bool q0.neg)/\w'.cell? ⟨b,off+1,none⟩=some (.string q0.num)/\w'.cell? ⟨b,off+2,none⟩=some (.string q0.den)/\w'.cell? ⟨b,off+3,none⟩=some (.bool q20.neg)/\w'.cell? ⟨b,off+3+1,none⟩=some (.string q20.num)/\w'.cell? ⟨b,off+3+2,none⟩=some (.string q20.den)/\w'.cell? ⟨b,off+6,none⟩=some (.bool q20.neg)/\w'.cell? ⟨b,off+6+1,none⟩=some (.string q20.num)/\w'.cell? ⟨b,off+6+2,none⟩=some (.string q20.den)
theorem AwS.drew {w5 W:World} {b off:Nat} {q0 q20:GRat} (h:AwS w5 b off q0 q20 W):AwS w5 b off q0 q20 W.drew:=⟨Below.drew h.1,h.2⟩
theorem AwS.next {w5 W V:World} {b off:Nat} {q0 q20:GRat} (h:AwS w5 b off q0 q20 W) (hb:b<w5.heap.size) (hV:Below W.heap.size W V):AwS w5 b off q0 q20 V:=by
 have hc:∀o,V.cell? ⟨b,o,none⟩=W.cell? ⟨b,o,none⟩:=fun o=>hV.cell (p:=⟨b,o,none⟩) (Nat.lt_of_lt_of_le hb h.1.size)
 obtain ⟨h0,h⟩:=h;refine ⟨h0.step hV,?_⟩;simp only [hc];exact h
end Go.Proofs.YtokmkopihhnggaaGreatDoor
namespace Go.Proofs.YtokmkopihhnggaaGreatDoor
open Go Go.RowKit
theorem Ba {P:Program} {f:FuncId} {args:List A1} {vs:List Value} {w:World} (h:aR P f args (one (.bool true))) (hd:dh (fd w) vs args):
  Calls P f vs.toArray w fun e w'=>e= .returned (.bool true)/\Below w.heap.size w w':=
 (h.2 w (LT w.heap.size) vs (fun _ h=>h) hd).mono fun e w' ⟨v,he,hb,hv⟩=>by
  have:v= .bool true:=hv.1;subst this;exact ⟨he,hb⟩
theorem pN {α:Type} {enc:α->List C} {ok:α->Prop} {W:World} {v:Value} {a:α} {c:C} (o:rC enc ok W (LT W.heap.size) [v] a) (he:enc a=[c]):bl (fd W) v (.one c)/\ok a:=by
 obtain ⟨h,k⟩:=o;rw [he] at h;exact ⟨h.1,k⟩
end Go.Proofs.YtokmkopihhnggaaGreatDoor
