/- Plain law: a group that is built is valid; its legs are found where they stand, and there only. No walk. -/
import Derived.Test.YtclkgcigacbmiaaGreatDoorWf6M
import Derived.Test.YtclkgcigacbmiaaGreatDoorOw3M
import Derived.Test.YtclkgcigacbmiaaGreatDoorAbBM
import Derived.Test.YtclkgcigacbmiaaGreatDoorGu1M
import Derived.Test.YtclkgcigacbmiaaGreatDoorNat19M
import Derived.Deep.DeepCutAuto
import Derived.Deep.RegionHeld3
import Derived.Test.YtclkgcigacbmiaaGreatDoorWp2M
import Derived.Test.YtclkgcigacbmiaaGreatDoorAbZM
import Derived.Test.YtclkgcigacbmiaaGreatDoorEv4M
set_option linter.unusedVariables false
set_option maxHeartbeats 4000000
set_option maxRecDepth 100000
set_option linter.unusedSimpArgs false
set_option linter.defProp false
set_option linter.unusedSectionVars false
namespace Go.Proofs.YtclkgcigacbmiaaGreatDoor
open Go Go.RowKit Go.Proofs.Tryz



end Go.Proofs.YtclkgcigacbmiaaGreatDoor
namespace Go.Proofs.YtclkgcigacbmiaaGreatDoor
open Go Go.RowKit Go.ChangeShapes Go.WideShapes Go.ChangeAt Go.Proofs.Tryz
theorem du:o8 prog 22 (rC Ad (·<65536)):=by
 intro H enc W fuel cs x h;obtain ⟨n,rfl,hn⟩:=qe underlying22 H enc W fuel cs x h;exact ⟨n,⟨⟨rfl,rfl⟩,trivial⟩,hn⟩
theorem Tryz.cellsU16:prog.cellsOf 22=1:=by kernel_rfl
def Ae (x:N4):Prop:=x.a<65536/\x.b<65536/\x.c<65536/\x.d<65536
end Go.Proofs.YtclkgcigacbmiaaGreatDoor
namespace Go.Proofs.YtclkgcigacbmiaaGreatDoor
open Go.RowKit Go.Proofs.Tryz
def RL (w:World) (v:Value) (l:List GRat):Prop:=al 3 vV w (LT w.heap.size) [v] l
theorem RL.below {w w':World} {v:Value} {l:List GRat} (h:RL w v l) (hb:Below w.heap.size w w'):RL w' v l:=(aq mX).below h hb hb.size
theorem RL.drew {w:World} {v:Value} {l:List GRat} (h:RL w v l):RL w.drew v l:=h
theorem RL.open {w:World} {v:Value} {l:List GRat} (h:RL w v l):
  ∃a cap,v= .slice a l.length cap/\l.length<=9223372036854775807/\(l=[]∨∃b off,a=some ⟨b,off,none⟩/\b<w.heap.size/\∀j (h:j<l.length),w.cell? ⟨b,off+j*3,none⟩=some (.bool l[j].neg)/\w.cell? ⟨b,off+j*3+1,none⟩=some (.string l[j].num)/\w.cell? ⟨b,off+j*3+2,none⟩=some (.string l[j].den)/\sB maxLen l[j]):=by
 obtain ⟨a,cap,hv,h1,h2,h3,h4⟩:=h;simp only [List.cons.injEq,and_true] at hv;refine ⟨a,cap,hv,cc h1 h2,?_⟩;rcases h4 with h4|⟨b,off,h5,h6,h7⟩
 ·exact .inl h4
 refine .inr ⟨b,off,h5,h6,fun j hj=>?_⟩;obtain ⟨cs,k1,k2,rfl,k3,k4⟩:=h7 j hj;exact ⟨k2 0 (by decide),k2 1 (by decide),k2 2 (by decide),k3,k4⟩
theorem sm (w:World) (S:Nat->Prop) (r:GRat) (h:sB maxLen r):vV w S [.bool r.neg,.string r.num,.string r.den] r:=⟨rfl,h.1,h.2⟩
def gA (rs:List GRat) (j:Nat):Value:=if j%3=0 then .bool (rs.getD (j/3) gZ).neg else if j%3=1 then .string (rs.getD (j/3) gZ).num else .string (rs.getD (j/3) gZ).den
def OwnR (w:World) (g n:Nat) (rs:List GRat):Prop:=rs.length=n/\Own w g 48 (n*3) (gA rs)
theorem sn (rs:List GRat) (k:Nat):gA rs (k*3)= .bool (rs.getD k gZ).neg:=by
 unfold gA;rw [if_pos (by omega),show k*3/3=k by omega]
theorem sr (rs:List GRat) (k:Nat):gA rs (k*3+1)= .string (rs.getD k gZ).num:=by
 unfold gA;rw [if_neg (by omega),if_pos (by omega),show (k*3+1)/3=k by omega]
theorem ss (rs:List GRat) (k:Nat):gA rs (k*3+2)= .string (rs.getD k gZ).den:=by
 unfold gA;rw [if_neg (by omega),if_neg (by omega),show (k*3+2)/3=k by omega]
theorem OwnR.facts {w:World} {g n:Nat} {rs:List GRat} (h:OwnR w g n rs) {k:Nat} (hk:k<n):
  w.cell? ⟨g,k*3,none⟩=some (.bool (rs.getD k gZ).neg)/\w.cell? ⟨g,k*3+1,none⟩=some (.string (rs.getD k gZ).num)/\w.cell? ⟨g,k*3+2,none⟩=some (.string (rs.getD k gZ).den)/\(∀j,w.frozen? ⟨g,j,none⟩=false)/\g<w.heap.size:=by
 have h1:=h.2.cell (j:=k*3) (by omega);have h2:=h.2.cell (j:=k*3+1) (by omega);have h3:=h.2.cell (j:=k*3+2) (by omega);rw [sn] at h1;rw [sr] at h2;rw [ss] at h3;exact ⟨h1,h2,h3,fun j=>h.2.frozen j,h.2.lt⟩
theorem OwnR.put {w:World} {g n:Nat} {rs:List GRat} (h:OwnR w g n rs) {k:Nat} (hk:k<n) (r:GRat):
  OwnR (((w.setCell ⟨g,k*3,none⟩ (.bool r.neg)).setCell ⟨g,k*3+1,none⟩ (.string r.num)).setCell ⟨g,k*3+2,none⟩ (.string r.den)) g n (rs.set k r):=by
 refine ⟨by rw [List.length_set];exact h.1,(((h.2.set _ _).set _ _).set _ _).congr fun j hj=>?_⟩;have hk':k<rs.length:=by rw [h.1];exact hk
 unfold upd;by_cases e2:j=k*3+2
 ·rw [if_pos e2,e2,ss];simp [List.getD,hk']
 rw [if_neg e2];by_cases e1:j=k*3+1
 ·rw [if_pos e1,e1,sr];simp [List.getD,hk']
 rw [if_neg e1];by_cases e0:j=k*3
 ·rw [if_pos e0,e0,sn];simp [List.getD,hk']
 rw [if_neg e0];have hne:¬k=j/3:=by omega
 unfold gA;simp [List.getD,hne]
theorem OwnR.below {w w':World} {g n:Nat} {rs:List GRat} (h:OwnR w g n rs) (hb:Below w.heap.size w w'):OwnR w' g n rs:=⟨h.1,h.2.below hb h.2.lt⟩
theorem OwnR.alloc {w:World} {g n:Nat} {rs:List GRat} (h:OwnR w g n rs) (o:Obj):OwnR (w.alloc o) g n rs:=⟨h.1,h.2.alloc o⟩
theorem OwnR.drew {w:World} {g n:Nat} {rs:List GRat} (h:OwnR w g n rs):OwnR w.drew g n rs:=h
theorem OwnR.other {w:World} {g g' n:Nat} {rs:List GRat} (h:OwnR w g n rs) (hne:g'≠g) (r:GRat):OwnR (lB w g' r) g n rs:=⟨h.1,((h.2.other hne _ _).other hne _ _).other hne _ _⟩
theorem OwnR.new (w:World) (n:Nat):OwnR (w.alloc (.cells (madeCells #[.bool false,.string {data:= #[]},.string {data:= #[]}] (n*3)) 48)) w.heap.size n (List.replicate n gZ):=by
 refine ⟨by simp,?_⟩;unfold Own;rw [heap_alloc_new];congr 2;apply Array.ext
 ·simp [madeCells]
 intro i h1 h2;have hi:i<n*3:=by simpa using h2
 have e:(List.replicate n gZ).getD (i/3) gZ=gZ:=by simp [List.getD,List.getElem?_replicate];split<;>rfl
 simp only [madeCells,Array.getElem_map,Array.getElem_range,gA,e];have:i%3=0∨i%3=1∨i%3=2:=by omega
 rcases this with h|h|h<;>simp [h]<;>rfl
theorem OwnR.reads {w:World} {g n:Nat} {rs:List GRat} (h:OwnR w g n rs) (hn:n<=maxLen) (hs:∀r∈rs,sB maxLen r):RL w (.slice (some ⟨g,0,none⟩) n n) rs:=by
 refine ⟨some ⟨g,0,none⟩,n,by rw [h.1],by rw [h.1];exact Nat.le_refl _,hn,by simp,.inr ⟨g,0,rfl,h.2.lt,fun j hj=>⟨[.bool rs[j].neg,.string rs[j].num,.string rs[j].den],rfl,?_,sm _ _ _ (hs _ (List.getElem_mem hj))⟩⟩⟩;intro c hc;obtain ⟨f0,f1,f2,_⟩:=h.facts (k:=j) (by rw [←h.1];exact hj);have e:rs.getD j gZ=rs[j]:=by simp [List.getD,hj]
 rw [e] at f0 f1 f2;have:c=0∨c=1∨c=2:=by omega
 rcases this with rfl|rfl|rfl
 ·simpa using f0
 ·simpa using f1
 simpa using f2
attribute [local go_sem ↓] Go.wp_at_zero Go.wp_at_succ
def RSt (w wr:World) (W:GRat) (n:Nat) (rs:List GRat) (s o:GRat):Prop:=
 Bx wr w.heap.size W/\OwnR wr (w.heap.size+1) n rs/\Bx wr (w.heap.size+1+1) s/\Bx wr (w.heap.size+1+1+1) o/\Below w.heap.size w wr
section
variable {w wr : World} {W : GRat} {n : Nat} {rs : List GRat} {s o : GRat}
theorem RSt.next {w':World} (h:RSt w wr W n rs s o) (hb:Below wr.heap.size wr w'):RSt w w' W n rs s o:=⟨h.1.below hb,h.2.1.below hb,h.2.2.1.below hb,h.2.2.2.1.below hb,h.2.2.2.2.step hb⟩
theorem RSt.drew (h:RSt w wr W n rs s o):RSt w wr.drew W n rs s o:=⟨h.1.drew,h.2.1.drew,h.2.2.1.drew,h.2.2.2.1.drew,Below.drew h.2.2.2.2⟩
theorem RSt.alloc (h:RSt w wr W n rs s o) (b:Obj):RSt w (wr.alloc b) W n rs s o:=h.next ((Below.refl _ _).alloc (Nat.le_refl _) _)
theorem RSt.putO (h:RSt w wr W n rs s o) (a:GRat):RSt w (lB wr (w.heap.size+1+1+1) a) W n rs s a:=
 ⟨h.1.other (by omega) a,h.2.1.other (by omega) a,h.2.2.1.other (by omega) a,h.2.2.2.1.put a,de h.2.2.2.2 (by omega) a⟩
theorem RSt.lt (h:RSt w wr W n rs s o):w.heap.size+1+1+1<wr.heap.size:=Blk3.lt h.2.2.2.1
end
attribute [local go_sem ↓] Go.wp_at_zero Go.wp_at_succ
theorem RL.get {w:World} {v:Value} {l:List GRat} (h:RL w v l) {k:Nat} (hk:k<l.length):
  ∃b off cap,v= .slice (some ⟨b,off,none⟩) l.length cap/\b<w.heap.size/\l.length<=9223372036854775807/\∀j (h:j<l.length),w.cell? ⟨b,off+j*3,none⟩=some (.bool l[j].neg)/\w.cell? ⟨b,off+j*3+1,none⟩=some (.string l[j].num)/\w.cell? ⟨b,off+j*3+2,none⟩=some (.string l[j].den)/\sB maxLen l[j]:=by
 obtain ⟨a,cap,rfl,h1,h2⟩:=h.open;rcases h2 with h2|⟨b,off,rfl,hb,h3⟩
 ·rw [h2] at hk;simp at hk
 exact ⟨b,off,cap,rfl,hb,h1,h3⟩
def AwS (w5:World) (b off:Nat) (q0 q20:GRat) (w':World):Prop:=Below w5.heap.size w5 w'/\w'.cell? ⟨b,off,none⟩=some (.bool q0.neg)/\w'.cell? ⟨b,off+1,none⟩=some (.string q0.num)/\w'.cell? ⟨b,off+2,none⟩=some (.string q0.den)/\w'.cell? ⟨b,off+3,none⟩=some (.bool q20.neg)/\w'.cell? ⟨b,off+3+1,none⟩=some (.string q20.num)/\w'.cell? ⟨b,off+3+2,none⟩=some (.string q20.den)/\w'.cell? ⟨b,off+6,none⟩=some (.bool q20.neg)/\w'.cell? ⟨b,off+6+1,none⟩=some (.string q20.num)/\w'.cell? ⟨b,off+6+2,none⟩=some (.string q20.den)
theorem AwS.drew {w5 W:World} {b off:Nat} {q0 q20:GRat} (h:AwS w5 b off q0 q20 W):AwS w5 b off q0 q20 W.drew:=⟨Below.drew h.1,h.2⟩
theorem AwS.next {w5 W V:World} {b off:Nat} {q0 q20:GRat} (h:AwS w5 b off q0 q20 W) (hb:b<w5.heap.size) (hV:Below W.heap.size W V):AwS w5 b off q0 q20 V:=by
 have hc:∀o,V.cell? ⟨b,o,none⟩=W.cell? ⟨b,o,none⟩:=fun o=>hV.cell (p:=⟨b,o,none⟩) (Nat.lt_of_lt_of_le hb h.1.size)
 obtain ⟨h0,h⟩:=h;refine ⟨h0.step hV,?_⟩;simp only [hc];exact h
end Go.Proofs.YtclkgcigacbmiaaGreatDoor
namespace Go.Proofs.YtclkgcigacbmiaaGreatDoor
open Go Go.RowKit Go.Proofs.Tryz
theorem tY {α:Type} {enc:α->List C} {ok:α->Prop} {W:World} {v:Value} {a:α} (o:∃cs:Array Value,v= .agg cs/\rC enc ok W (LT W.heap.size) cs.toList a):ar (fL W) v (.agg (enc a))/\ok a:=by
 obtain ⟨cs,rfl,h,k⟩:=o;exact ⟨⟨cs.toList,by simp,h⟩,k⟩
end Go.Proofs.YtclkgcigacbmiaaGreatDoor
namespace Go.Proofs.YtclkgcigacbmiaaGreatDoor
open Go Go.RowKit Go.ChangeShapes Go.WideShapes Go.ChangeAt Go.Proofs.Tryz

end Go.Proofs.YtclkgcigacbmiaaGreatDoor
namespace Go.Proofs.YtclkgcigacbmiaaGreatDoor
open Go Go.RowKit Go.Proofs.Tryz
section
variable {P : Program} {e : En} {k0 : Kx} {N : Nat} {st : St} {a : Act} {w : World} {Q : Exit → St → Prop} {c : Code}
theorem mU {t nm s:Nat} {B:Blk} (hB:st.H nm=some B) (hsz:B.sz≠0) (hs:B.st=s) (htm:st.tm t= .val (.one (.ptr nm s 0))) (hr:Rel e k0 N st a w):Rel e k0 N ⟨up st.tm t (.val (.one (.sp B.cs))),up st.H nm none,st.nx,st.nb⟩ a w:=by
 obtain ⟨σ,h1,h2,h3⟩:=hr.ex;obtain ⟨k1,k2⟩:=h1.drop nm;have hv:=h2 t;rw [htm] at hv;obtain ⟨b,q1,q2,xs,q3,q4⟩:=dw h1 hv hB hs;have hlt:=h1.lt hB (bO q1);refine ⟨⟨σ,k1,fun t'=>?_,h3.trans k2⟩,hr.df,hr.sz⟩;show ak (kx e (up st.H nm none) st.nx σ w) _ (up st.tm t _ t');by_cases htt:t'=t
 ·subst htt;rw [aO];simp only [ak,ar,den];refine ⟨b,0,q2,⟨.inr hlt.1,hlt.2,fun nm' B' hB'=>?_⟩,?_⟩
  ·have hB'':up st.H nm none nm'=some B':=hB';by_cases h0:nm'=nm
   ·subst h0;rw [aO] at hB'';cases hB''
   rw [bM _ _ h0] at hB'';intro e1;exact h1.inj nm' nm B' B hB'' hB h0 b e1 (bO q1)
  refine denM.of_vals (ct k2 q4) fun j u hu=>?_
  have hadd:(⟨b,0,none⟩:Addr).add j=⟨b,0+j,none⟩:=by unfold Addr.add;split<;>simp_all
  have:=q3.cells (g:=b) q1 j u hu;rw [hadd] at this;exact this
 rw [bM _ _ htt];exact dg k2 (h2 t')
theorem su {t nm s:Nat} {B:Blk} (htm:st.tm t= .val (.one (.ptr nm s 0))) (hB:st.H nm=some B) (hsz:B.sz≠0) (hs:B.st=s) (h:Awp P e k0 N c Q ⟨up st.tm t (.val (.one (.sp B.cs))),up st.H nm none,st.nx,st.nb⟩):Awp P e k0 N c Q st:=aN (fun _ _ hr=>mU hB hsz hs htm hr) h
end
section
variable {P : Program} {e : En} {k0 : Kx} {N : Nat} {st : St} {Q : Exit → St → Prop} {c : Code}
end
section
variable (A B : List C) (x y : C) (s s' : GRat)
end
theorem xb (r:GRat) (h1:r.num.size<=500000000000) (h2:r.den.size<=500000000000):ACall prog 168 [.agg (bk r)] (.val (.agg (bk (enc (qOf r))))):=
 aJ (aV func168 (by decide) (by kernel_rfl)) [az r] (az (enc (qOf r))) fun w=>bI r w h1 h2
theorem pb (p:Rat) (m:Nat) (hp:qB m p) (hm:m<=100000000000):ACall prog 168 [.agg (bk (enc p))] (.val (.agg (bk (enc p)))):=by
 have h:=xb (enc p) (by have:=(rV hp).1;omega) (by have:=(rV hp).2;omega);rwa [iL] at h
theorem yF (q:Rat):ACall prog 171 [.agg (bk (enc q))] (one (.string (ae q.den))):=
 aJ (aV func171 (by decide) (by kernel_rfl)) [az (enc q)] (.string (ae q.den)) fun w=>dq q w
theorem vG (a b:ByteArray) (ha:a.size<=500000000000) (hb:b.size<=500000000000):ACall prog 170 [.one (.lit (.string a)),.one (.lit (.string b))] (one (.string (ae (ac a*ac b)))):=
 aJ (aV func170 (by decide) (by kernel_rfl)) [.string a,.string b] (.string (ae (ac a*ac b))) fun w=>bj a b w ha hb
theorem vH (s:ByteArray) (hs:s.size<=400000000000):ACall prog 265 [.one (.lit (.string s))] (one (.string (ae (ac s)))):=
 aJ (aV func265 (by decide) (by kernel_rfl)) [.string s] (.string (ae (ac s))) fun w=>(aH s w (by unfold maxLen;omega)).mono fun e w' ⟨h1,h2⟩=>⟨h1,h2▸Below.refl _ _⟩
theorem sv (neg:Bool) (a b:ByteArray) (ha:a.size<=400000000000) (hb:b.size<=400000000000) (hd:0<ac b):ACall prog 180 [.one (.lit (.bool neg)),.one (.lit (.string a)),.one (.lit (.string b))] (.val (.agg (bk (enc (mkRat (sg neg (ac a)) (ac b)))))):=
 aJ (aV func180 (by decide) (by kernel_rfl)) [.bool neg,.string a,.string b] (az (enc (mkRat (sg neg (ac a)) (ac b)))) fun w=>bW neg a b w ha hb hd
theorem sC (n:Nat):(ae n={data:= #[]})↔n=0:=⟨fun h=>gw.1 (by rw [h];rfl),fun h=>by subst h;exact dn⟩
theorem sD (z:Int):mkRat z 0=0:=by simp [mkRat]
theorem yG (p q:Rat):mkRat (sg (aG p !=aG q) (p.num.natAbs*q.den)) (p.den*q.num.natAbs)=p/q:=by
 by_cases h:q=0
 ·subst h;rw [Rat.div_def,Rat.inv_zero,Rat.mul_zero];simp [sD]
 exact (oY h).symm
theorem Af (q:Rat):q.num.natAbs=0↔q=0:=by simp
def F0:=And.intro zS (And.intro tf0 (And.intro tf1 (tf2)))
theorem F1:type_of%F0:=F0
theorem xd (neg:Bool) (a b:ByteArray) (ha:a.size<=400000000000) (hb:b.size<=400000000000):ACall prog 290 [.one (.lit (.bool neg)),.one (.lit (.string a)),.one (.lit (.string b))] (.tup [.agg (bk (enc (mkRat (sg neg (ac a)) (ac b)))),.one (.lit (.bool (decide (ac b≠0))))]):=by
 refine me func290 rfl (by decide) (N:=16) rfl (by simp) (R:=[.cell 6 48,.tmp 7]) rfl fun en k0=>?_
 refine awN ?_;simp only [F1,seval];by_cases h0:ac b=0
 ·skip;have hx:ae (ac b)={data:= #[]}:=(sC _).2 h0;refine awN ?_;simp only [F1,seval];refine ⟨_,(vH b hb),rfl,?_⟩;try simp only [aZ,F1,seval,hx]
  refine awT ?_;refine awN ?_;simp only [F1,seval];refine awX ?_;simp only [F1,seval];rw [h0,sD,←nL];simp [bk,gZ,aD]
 skip;have hx:¬ae (ac b)={data:= #[]}:=fun h=>h0 ((sC _).1 h)
 refine awN ?_;simp only [F1,seval];refine ⟨_,(vH b hb),rfl,?_⟩;try simp only [aZ,F1,seval,hx]
 refine awF ?_;refine awK ?_;simp only [F1,seval];refine awN ?_;simp only [F1,seval,bk];refine ⟨_,(sv neg a b ha hb (Nat.pos_of_ne_zero h0)),rfl,?_⟩;try simp only [aZ,F1,seval,bk]
 refine awX ?_;simp only [F1,seval];simp [h0]
def F2:=And.intro zS (And.intro tf3 (And.intro tf4 (And.intro tf0 (And.intro tf5 (And.intro tf6 (And.intro tf7 (tf2)))))))
theorem F3:type_of%F2:=F2
theorem Ag (p q:Rat) (m n:Nat) (hp:qB m p) (hq:qB n q) (hm:m<=100000000000) (hn:n<=100000000000):ACall prog 198 [.agg (bk (enc p)),.agg (bk (enc q))] (.tup [.agg (bk (enc (p/q))),.one (.lit (.bool (decide (q≠0))))]):=by
 have s1:(ae p.num.natAbs).size<=m:=NB.size hp.1;have s2:(ae q.num.natAbs).size<=n:=NB.size hq.1;have s3:(ae p.den).size<=m:=NB.size hp.2;have s4:(ae q.den).size<=n:=NB.size hq.2;have nx:(ae (p.num.natAbs*q.den)).size<=m+n:=NB.size (NB.mul hp.1 hq.2);have ny:(ae (p.den*q.num.natAbs)).size<=m+n:=NB.size (NB.mul hp.2 hq.1);have hMk:=xd (aG p !=aG q) (ae (p.num.natAbs*q.den)) (ae (p.den*q.num.natAbs)) (by omega) (by omega);rw [ai,ai,yG] at hMk;have hd0:decide (p.den*q.num.natAbs≠0)=decide (q≠0):=by
  have h1:=p.den_pos;have h2:=Af q;by_cases h3:q=0
  ·simp [h3]
  have h4:q.num.natAbs≠0:=fun h=>h3 (h2.1 h)
  have h5:p.den*q.num.natAbs≠0:=Nat.mul_ne_zero (by omega) h4;simp [h3,h5]
 rw [hd0] at hMk;have hMk2:ACall prog 290 [.one (.lit (.bool (!(enc p).neg==(enc q).neg))),.one (.lit (.string (ae (p.num.natAbs*q.den)))),.one (.lit (.string (ae (p.den*q.num.natAbs))))] (.tup [.agg (bk (enc (p/q))),.one (.lit (.bool (decide (q≠0))))]):=hMk;simp only [bk] at hMk2;refine me func198 rfl (by decide) (N:=28) rfl (by simp) (R:=[.cell 4 48,.tmp 5]) rfl fun en k0=>?_
 refine awN ?_;simp only [F3,seval,bk];refine awD (scq [1,5,2,6,8,10] .nil) [0,0,0,0,0,0] ?_;simp only [F3,seval];refine ⟨_,(pb p m hp (by omega)),rfl,?_⟩;try simp only [aZ,F3,seval,bk]
 refine ⟨_,(pb q n hq (by omega)),rfl,?_⟩;try simp only [aZ,F3,seval,bk]
 refine awD (scT 0 8 (scq [21,25,27,16,18,22,28,30,33,35,36,39] .nil)) [0,0,0,0,0,0,0,0,0,0,0,0,0,0,0,0,0,0,0,0] ?_;simp only [F3,seval];refine ⟨_,(yF q),rfl,?_⟩;try simp only [aZ,F3,seval]
 refine ⟨_,(vG (ae p.num.natAbs) (ae q.den) (by omega) (by omega)),rfl,?_⟩;try simp only [aZ,F3,seval,ai]
 refine ⟨_,(yF p),rfl,?_⟩;try simp only [aZ,F3,seval]
 refine ⟨_,(vG (ae p.den) (ae q.num.natAbs) (by omega) (by omega)),rfl,?_⟩;try simp only [aZ,F3,seval,ai]
 refine ⟨_,hMk2,rfl,?_⟩;try simp only [aZ,F3,seval]
 refine awX ?_;(first|(simp only [F3,seval];done)|(simp only [F3,seval,bk];first|(simp [];done)))
def tZ (q:Rat):GRat:=mq q.num.natAbs fun a=>mq q.den fun b=>bif decide (q.num<0) then ⟨true,eh a,bif Nat.beq b 1 then aD else eh b⟩ else ⟨false,eh a,bif Nat.beq b 1 then aD else eh b⟩
theorem pd (q:Rat):tZ q=enc q:=by
 unfold tZ enc;simp only [ff,gt,kO,cond_eq_ite,decide_eq_true_eq];split<;>simp_all
def t6 {β:Type} (q:Rat) (k:GRat->β):β:=mq q.num.natAbs fun a=>mq q.den fun b=>bif decide (q.num<0) then k ⟨true,eh a,bif Nat.beq b 1 then aD else eh b⟩ else k ⟨false,eh a,bif Nat.beq b 1 then aD else eh b⟩
theorem pe {β:Type} (q:Rat) (k:GRat->β):t6 q k=k (enc q):=by
 rw [←pd];unfold t6 tZ;simp only [ff,cond_eq_ite];split<;>rfl
def yH (r:GRat):Rat:=mkRat (bif r.neg then -((ac r.num:Nat):Int) else ((ac r.num:Nat):Int)) (bif r.den.data.toList.isEmpty then 1 else ac r.den)
def eqG (r s:GRat):Bool:=Bool.not (xor r.neg s.neg)&&(decide (r.num.data.toList=s.num.data.toList)&&decide (r.den.data.toList=s.den.data.toList))
theorem xe {r s:GRat} (h:eqG r s=true):r=s:=by
 obtain ⟨a,b,c⟩:=r;obtain ⟨a',b',c'⟩:=s;simp only [eqG,Bool.and_eq_true,decide_eq_true_eq] at h;obtain ⟨h1,h2,h3⟩:=h;have e1:a=a':=by cases a<;>cases a'<;>simp_all
 have e2:b=b':=by cases b;cases b';simp only [ByteArray.mk.injEq];exact Array.toList_inj.1 h2
 have e3:c=c':=by cases c;cases c';simp only [ByteArray.mk.injEq];exact Array.toList_inj.1 h3
 rw [e1,e2,e3]
def nR (r:GRat):Bool:=small r.num&&small r.den
theorem qf {r:GRat} (h:nR r=true):sB 1000000 r:=by
 simp only [nR,Bool.and_eq_true] at h;exact ⟨eR h.1,eR h.2⟩
def dK (cs:List C):Option Rat:=match cs with
 |[.lit (.bool a),.lit (.string x),.lit (.string y)]=>bif nR ⟨a,x,y⟩&&eqG (tZ (yH ⟨a,x,y⟩)) ⟨a,x,y⟩ then some (yH ⟨a,x,y⟩) else none
 |_=>none
theorem vI {cs:List C} {q:Rat} (h:dK cs=some q):cs=bk (enc q)/\sB 1000000 (enc q):=by
 unfold dK at h;split at h<;>try (cases h;done)
 rename_i a x y;replace h:=am h;obtain ⟨hc,h⟩:=h;simp only [Bool.and_eq_true] at hc;obtain rfl:=Option.some.inj h;have h1:=xe hc.2;rw [pd] at h1;rw [h1];exact ⟨rfl,qf hc.1⟩
def xf (p q:Rat):Int:=bif decide (p.num*q.den<q.num*p.den) then -1 else bif decide (q.num*p.den<p.num*q.den) then 1 else 0
theorem t7 (p q:Rat):xf p q=eW p q:=by
 unfold xf eW;simp only [cond_eq_ite,decide_eq_true_eq,Rat.lt_iff]
def qg (q:Rat):Option AV:=t6 q fun r=>some (.val (.agg (bk r)))
def t8 (f:FuncId) (ys:List A1):Option AV:=match ys with
 |[.agg a,.agg b]=>match dK a,dK b with
  |some p,some q=>
   bif Nat.beq f 93 then qg (p+q)
   else bif Nat.beq f 94 then qg (p-q)
   else bif Nat.beq f 200 then qg (p*q)
   else bif Nat.beq f 92 then some (one (.int .i64 (xf p q)))
   else bif Nat.beq f 198 then t6 (p/q) fun r=>bif decide (q.num=0) then some (.tup [.agg (bk r),.one (.lit (.bool false))]) else some (.tup [.agg (bk r),.one (.lit (.bool true))])
   else none
  |_,_=>none
 |[.one (.lit (.int .i64 n))]=>bif Nat.beq f 102&&(decide (-9223372036854775808<=n)&&decide (n<=9223372036854775807)) then qg (n:Rat) else none
 |_=>wL f ys
theorem pg (f:FuncId) (ys:List A1) (res:AV) (h:t8 f ys=some res):ACall prog f ys res:=by
 unfold t8 at h;split at h
 ·rename_i a b;split at h<;>try (cases h;done)
  rename_i p q hp hq;obtain ⟨rfl,bp⟩:=vI hp;obtain ⟨rfl,bq⟩:=vI hq;have ep:=iL p;have eq:=iL q;simp only [kO,cond_eq_ite,decide_eq_true_eq,qg,pe,t7] at h;split at h
  ·rename_i hf;subst hf;obtain rfl:=Option.some.inj h;have:=z8 (enc p) (enc q) 1000000 1000000 bp bq (by decide) (by decide) (by decide) (by decide);rwa [ep,eq] at this
  split at h
  ·rename_i hf;subst hf;obtain rfl:=Option.some.inj h;have:=Aa (enc p) (enc q) 1000000 1000000 bp bq (by decide) (by decide) (by decide) (by decide);rwa [ep,eq] at this
  split at h
  ·rename_i hf;subst hf;obtain rfl:=Option.some.inj h;have:=Ab (enc p) (enc q) 1000000 1000000 bp bq (by decide) (by decide) (by decide) (by decide);rwa [ep,eq] at this
  split at h
  ·rename_i hf;subst hf;obtain rfl:=Option.some.inj h;have:=rX (enc p) (enc q) 1000000 1000000 bp bq (by decide) (by decide) (by decide) (by decide);rwa [ep,eq] at this
  split at h
  ·rename_i hf;subst hf;have h1:=bp.qB (by decide);rw [ep] at h1;have h2:=bq.qB (by decide);rw [eq] at h2;have h3:=Ag p q 1000000 1000000 h1 h2 (by decide) (by decide);have hz:q.num=0↔q=0:=Rat.num_eq_zero;split at h
   ·rename_i h0;obtain rfl:=Option.some.inj h;rwa [show decide (q≠0)=false from decide_eq_false (fun g=>g (hz.1 h0))] at h3
   rename_i h0;obtain rfl:=Option.some.inj h;rwa [show decide (q≠0)=true from decide_eq_true (fun g=>h0 (hz.2 g))] at h3
  cases h
 ·rename_i n;replace h:=am h;obtain ⟨hc,h⟩:=h;simp only [Bool.and_eq_true,decide_eq_true_eq] at hc;rw [qg,pe] at h;obtain rfl:=Option.some.inj h;obtain rfl:=Nat.eq_of_beq_eq_true hc.1;exact Ac n (by omega) (by omega)
 exact tA f ys res h
def br (P:Program) (K:CK P) (hh:Nat->Option Sw):Code->Bool
 | .region id ops true=>match hh id with
  |some t=>Region.noSelect ops&&decide (t.len=ops.size)&&eA .any ops (eu P K ops) t true (Array.replicate ops.size false)
  |none=>true
 | .seq x y=>br P K hh x&&br P K hh y
 | .cond _ x y=>br P K hh x&&br P K hh y
 | .block _ b=>br P K hh b
 | .loop b=>br P K hh b
 |_=>true
theorem nS (P:Program) (K:CK P) (c:Code):br P K (fun _=>none) c=true:=by
 induction c with
 |region id ops draw=>cases draw<;>simp [br]
 |seq x y h1 h2=>simp [br,h1,h2]
 |cond o x y h1 h2=>simp [br,h1,h2]
 |block id b h=>simpa [br] using h
 |loop b h=>simpa [br] using h
 |_=>simp [br]
def au (P:Program) (K:CK P) (hh:Nat->Option Sw) (fn:Func):Bool:=match fn.body with
 |some c=>br P K hh c
 |none=>true
structure HT (P:Program) (K:CK P) where
 h:FuncId->Nat->Option Sw
 ok:∀f fn c,P.funcs[f]? =some fn->fn.body=some c->br P K (h f) c=true
def hL:List (Nat×Sw)->Nat->Option Sw
 |[],_=>none
 |p::l,id=>bif Nat.beq id p.1 then some p.2 else hL l id
def hF:List (FuncId×List (Nat×Sw))->FuncId->Nat->Option Sw
 |[],_=>fun _=>none
 |p::l,f=>bif Nat.beq f p.1 then hL p.2 else hF l f
def hOK (P:Program) (K:CK P):List (FuncId×List (Nat×Sw))->Prop
 |[]=>True
 |p::l=>(∃fn,P.funcs[p.1]? =some fn/\au P K (hL p.2) fn=true)/\hOK P K l
theorem vJ {P:Program} {K:CK P}:∀(l:List (FuncId×List (Nat×Sw))),hOK P K l->∀f fn c,P.funcs[f]? =some fn->fn.body=some c->br P K (hF l f) c=true
 |[],_,f,fn,c,_,_=>nS P K c
 |p::l,h,f,fn,c,hf,hb=>by
  obtain ⟨⟨fn2,h1,h2⟩,h3⟩:=h;simp only [hF];cases hx:Nat.beq f p.1 with
  |false=>exact vJ l h3 f fn c hf hb
  |true=>
   rw [←Nat.eq_of_beq_eq_true hx,hf] at h1;obtain rfl:=Option.some.inj h1;simp only [au,hb] at h2;exact h2
def HTl {P:Program} {K:CK P} (l:List (FuncId×List (Nat×Sw))) (h:hOK P K l):HT P K:=⟨hF l,vJ l h⟩
def vK (P:Program) (K:CK P) (hint:Option Sw) (call:dj) (callP:dN) (b0 N:Nat) (ops:Array Oper) (s:ES):Option ES:=match hint with
 |some t=>jl P K call callP b0 N ops (ba ops) t s
 |none=>xY P K call callP b0 N ops s
def dI (P:Program) (K:CK P) (hh:Nat->Option Sw) (call:dj) (callP:dN) (b0 N:Nat):Nat->Code->ES->Option (Exit×ES)
 |0,_,_=>none
 |f+1,c,s=>match c with
  | .skip=>some (.normal,s)
  | .region id ops draw=>match (match draw with|true=>vK P K (hh id) call callP b0 N ops s|false=>pN P K call callP N ops.toList (ba ops) s) with
   |some s'=>some (.normal,s')
   |none=>none
  | .seq x y=>match dI P K hh call callP b0 N f x s with
   |some (.normal,s')=>s'.force fun s'=>dI P K hh call callP b0 N f y s'
   |r=>r
  | .cond c x y=>match ev (s.st 0) c with
   | .val (.one (.lit (.bool true)))=>dI P K hh call callP b0 N f x s
   | .val (.one (.lit (.bool false)))=>dI P K hh call callP b0 N f y s
   |_=>none
  | .block id b=>match dI P K hh call callP b0 N f b s with
   |some (.exit i,s')=>bif Nat.beq i id then some (.normal,s') else some (.exit i,s')
   |r=>r
  | .loop b=>match dI P K hh call callP b0 N f b s with
   |some (.normal,s')=>s'.force fun s'=>dI P K hh call callP b0 N f (.loop b) s'
   |r=>r
  | .exit id=>some (.exit id,s)
  | .ret=>some (.ret,s)
  |_=>none
section
variable {P : Program} {e : En} {k0 : Kx} {N : Nat} {a : Act} {w : World} {K : CK P} {hh : Nat → Option Sw} {call : dj} {callP : dN} {Q : Exit → St → Prop} {ops : Array Oper}
theorem ua {b0:Nat} (hk:k0.nx<=b0) (hks:∀nm B,k0.H nm=some B->B.st<k0.nx) (hm:P.follows .mixedOrders=true) (hcall:d5 P K.G call/\K.G e.w0) (hcallP:d6 P K.G callP) (hN:N<1000000):∀(f:Nat) (c:Code) (s s':ES) (ex:Exit) (Q:Exit->St->Prop),br P K hh c=true->dI P K hh call callP b0 N f c s=some (ex,s')->Q ex (s'.st 0)->Awp P e k0 N c Q (s.st 0):=by
 intro f;induction f using Nat.strongRecOn with
 |_ f ih=>
  intro c s s' ex Q hreg h hq;cases f with
  |zero=>simp [dI] at h
  |succ f=>
   have ihf:=ih f (Nat.lt_succ_self f);cases c with
   |skip=>
    simp only [dI,Option.some.injEq,Prod.mk.injEq] at h;obtain ⟨rfl,rfl⟩:=h;exact l9 hq
   |region id ops draw=>
    simp only [dI] at h;cases draw with
    |true=>
     simp only at h;split at h<;>try (cases h;done)
     rename_i s1 hs;simp only [Option.some.injEq,Prod.mk.injEq] at h;obtain ⟨rfl,rfl⟩:=h;unfold vK at hs;split at hs
     ·rename_i t hl;simp only [br,hl] at hreg;exact fun a w hr=>eM hm t (eu P K ops) hreg (fun c a d v w hq=>(hq.1 c rfl).elim) (d8 hk hks hcall hcallP hN hq t s _ a _ hs (fun _ _ h=>h) hr.drew)
     unfold xY at hs;split at hs<;>try (cases hs;done)
     rename_i t hl;replace hs:=am hs;exact fun a w hr=>eM hm t (eu P K ops) hs.1 (fun c a d v w hq=>(hq.1 c rfl).elim) (d8 hk hks hcall hcallP hN hq t s _ a _ hs.2 (fun _ _ h=>h) hr.drew)
    |false=>
     simp only at h;split at h<;>try (cases h;done)
     rename_i s1 hs;simp only [Option.some.injEq,Prod.mk.injEq] at h;obtain ⟨rfl,rfl⟩:=h;exact fun a w hr=>wp_region_list (kZ hcall hcallP hN _ _ s _ a w rfl hs hq hr)
   |seq x y=>
    simp only [dI] at h;simp only [br,Bool.and_eq_true] at hreg;refine iH ?_;split at h
    ·rename_i s1 hs;rw [ES.force_eq] at h;exact ihf x s s1 _ _ hreg.1 hs (ihf y s1 s' ex Q hreg.2 h hq)
    rename_i hne;refine ihf x s s' ex _ hreg.1 h ?_;cases ex with
    |normal=>exact (hne _ h).elim
    |_=>exact hq
   |cond c x y=>
    simp only [dI] at h;simp only [br,Bool.and_eq_true] at hreg;split at h<;>try (cases h;done)
    ·rename_i hc;exact gb true hc (fun _=>ihf x s s' ex Q hreg.1 h hq) (fun h=>by cases h)
    rename_i hc;exact gb false hc (fun h=>by cases h) (fun _=>ihf y s s' ex Q hreg.2 h hq)
   |block id b=>
    simp only [dI] at h;simp only [br] at hreg;refine gM ?_;split at h
    ·rename_i i s1 hs;refine ihf b s s1 _ _ hreg hs ?_;show (if i=id then Q .normal (s1.st 0) else Q (.exit i) (s1.st 0));cases hb:Nat.beq i id with
     |true=>
      rw [hb] at h;simp only [cond_true,Option.some.injEq,Prod.mk.injEq] at h;obtain ⟨rfl,rfl⟩:=h;rw [if_pos (Nat.eq_of_beq_eq_true hb)];exact hq
     |false=>
      rw [hb] at h;simp only [cond_false,Option.some.injEq,Prod.mk.injEq] at h;obtain ⟨rfl,rfl⟩:=h;rw [if_neg (fun hi=>by rw [hi] at hb;simp at hb)];exact hq
    rename_i hne;refine ihf b s s' ex _ hreg h ?_;cases ex with
    |exit i=>exact (hne _ _ h).elim
    |_=>exact hq
   |loop b=>
    refine mb (fun n st=>n<=f+1/\∃s,st=s.st 0/\dI P K hh call callP b0 N n (.loop b) s=some (ex,s')) (f+1) ⟨Nat.le_refl _,s,rfl,h⟩ fun n st ⟨hn,s1,hst,h1⟩=>?_
    subst hst;cases n with
    |zero=>simp [dI] at h1
    |succ n=>
     simp only [dI] at h1;split at h1
     ·rename_i s2 hs;rw [ES.force_eq] at h1;exact ih n (by omega) b s1 s2 _ _ (by simpa only [br] using hreg) hs ⟨n,by omega,by omega,s2,rfl,h1⟩
     rename_i hne;refine ih n (by omega) b s1 s' ex _ (by simpa only [br] using hreg) h1 ?_;cases ex with
     |normal=>exact (hne _ h1).elim
     |_=>exact hq
   |exit id=>
    simp only [dI,Option.some.injEq,Prod.mk.injEq] at h;obtain ⟨rfl,rfl⟩:=h;exact ma hq
   |ret=>
    simp only [dI,Option.some.injEq,Prod.mk.injEq] at h;obtain ⟨rfl,rfl⟩:=h;exact oz hq
   |_=>simp [dI] at h
end
def cR (P : Program) (K : CK P) (T : HT P K) (fuel : Nat) : Nat → dj
  | 0, _, _, _, _ => none
  | d + 1, f, ys, H, nx => match K.ci f ys H nx with
   | some r => some r
   | none => match P.funcs[f]? with
    | none => none
    | some fn => match fn.body with
      | none => none
      | some c => bif decide (fn.name ≠ "runtime.NumGoroutine") && (decide (ys.length ≤ fn.ntmps) && decide (fn.ntmps < 1000000)) then
          match dI P K (T.h f) (cR P K T fuel d) (ck P K (cR P K T fuel d)) nx fn.ntmps fuel c ⟨kf 0 ys, H, nx⟩ with
          | some (ex, s) => (match ex with
            | .normal => bif im P (s.st 0) fn.results.toList then (gK P (s.st 0) fn.results.toList).map fun r => (m6 r.2, s.H, s.nx) else none
            | .ret => bif im P (s.st 0) fn.results.toList then (gK P (s.st 0) fn.results.toList).map fun r => (m6 r.2, s.H, s.nx) else none
            | _ => none)
          | none => none
        else none
theorem mV {P:Program} {K:CK P} {T:HT P K} {fuel:Nat} (hm:P.follows .mixedOrders=true):∀d,d5 P K.G (cR P K T fuel d):=by
 intro d;induction d with
 |zero=>intro f ys H nx res H' nx' h;simp [cR] at h
 |succ d ih=>
  intro f ys H nx res H' nx' h;simp only [cR] at h;split at h
  ·rename_i r hr;obtain rfl:=Option.some.inj h;exact K.hci f ys H nx _ _ _ hr
  split at h<;>try (cases h;done)
  rename_i fn hfn;split at h<;>try (cases h;done)
  rename_i c hb;replace h:=am h;obtain ⟨hc,h⟩:=h;simp only [Bool.and_eq_true,decide_eq_true_eq] at hc;split at h<;>try (cases h;done)
  rename_i ex s hs;refine nz 0 hfn hb hc.1 rfl hc.2.1 rfl K.G fun e σ w hGe hW=>?_
  have hks:∀nm B,(kx e (fun n=>H.get n) nx σ w).H nm=some B->B.st<(kx e (fun n=>H.get n) nx σ w).nx:=fun nm B hB=>(hW.blk nm B hB).1
  have h0:(ES.mk (kf 0 ys) H nx).st 0=⟨fM 0 ys,fun n=>H.get n,nx,0⟩:=by
   have:=ms ys 0;simp only [ES.st];rw [show (ES.mk (kf 0 ys) H nx).tmF=fM 0 ys from this];rfl
  rw [←h0];refine ua (Nat.le_refl _) hks hm ⟨ih,hGe⟩ (gS ih) hc.2.2 fuel c _ s ex _ (T.ok f fn c hfn hb) hs ?_;have key:(bif im P (s.st 0) fn.results.toList then (gK P (s.st 0) fn.results.toList).map fun r=>(m6 r.2,s.H,s.nx) else none)=some (res,H',nx')->ja P fn.results.toList (fun r h n=>r=res/\h=(fun n=>H'.get n)/\n=nx') (s.st 0):=by
   intro h;replace h:=am h;obtain ⟨hk,h⟩:=h;rw [Option.map_eq_some_iff] at h;obtain ⟨⟨p,l⟩,h1,h2⟩:=h;simp only [Prod.mk.injEq] at h2;obtain ⟨rfl,rfl,rfl⟩:=h2;unfold ja;rw [h1];exact ⟨jm hk h1,rfl,rfl,rfl⟩
  cases ex with
  |normal=>exact key h
  |ret=>exact key h
  |_=>cases h
theorem cL {P:Program} (K:CK P) (T:HT P K) (fuel dep:Nat) {f:FuncId} {ys:List A1} {res:AV} (hm:P.follows .mixedOrders=true) (hy:ys.all cf=true) (h:ck P K (cR P K T fuel dep) f ys=some res) (hT:∀w,K.G w:=by exact fun _=>trivial):ACall P f ys res:=
 (gS (mV hm dep) f ys res h hy).all hT
theorem cq {P:Program} (K:CK P) (T:HT P K) (fuel dep:Nat) {f:FuncId} {ys:List A1} {res:AV} (hm:P.follows .mixedOrders=true) (hy:ys.all cf=true) (h:ck P K (cR P K T fuel dep) f ys=some res):ACallG K.G P f ys res:=
 gS (mV hm dep) f ys res h hy
end Go.Proofs.YtclkgcigacbmiaaGreatDoor
