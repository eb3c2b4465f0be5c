/- Plain law: a group that is built is valid; its legs are found where they stand, and there only. No walk. -/
import Derived.Test.YtcgpghifhehlhaaGreatDoorBl5M
import Derived.Test.YtcgpghifhehlhaaGreatDoorRw3M
import Derived.Test.YtcgpghifhehlhaaGreatDoorOw3M
import Derived.Test.YtcgpghifhehlhaaGreatDoorAbBM
import Derived.Test.YtcgpghifhehlhaaGreatDoorGu1M
import Derived.Test.YtcgpghifhehlhaaGreatDoorLftM
import Derived.Deep.DeepCutAuto
import Derived.Deep.RegionHeld3
import Derived.Test.YtcgpghifhehlhaaGreatDoorFewM
import Derived.Test.YtcgpghifhehlhaaGreatDoorEqsM
import Derived.Test.YtcgpghifhehlhaaGreatDoorAbZM
set_option linter.unusedVariables false
set_option maxHeartbeats 4000000
set_option maxRecDepth 100000
set_option linter.unusedSimpArgs false
set_option linter.defProp false
set_option linter.unusedSectionVars false
namespace Go.Proofs.YtcgpghifhehlhaaGreatDoor
open Go Go.RowKit Go.Proofs.Tryz



end Go.Proofs.YtcgpghifhehlhaaGreatDoor
namespace Go.Proofs.YtcgpghifhehlhaaGreatDoor
open Go.RowKit Go.Proofs.Tryz
def RL (w:World) (v:Value) (l:List GRat):Prop:=ax 3 x6 w (LT w.heap.size) [v] l
theorem RL.below {w w':World} {v:Value} {l:List GRat} (h:RL w v l) (hb:Below w.heap.size w w'):RL w' v l:=(aF p7).below h hb hb.size
theorem RL.drew {w:World} {v:Value} {l:List GRat} (h:RL w v l):RL w.drew v l:=h
theorem RL.open {w:World} {v:Value} {l:List GRat} (h:RL w v l):
  ∃a cap,v= .slice a l.length cap/\l.length<=9223372036854775807/\(l=[]∨∃b off,a=some ⟨b,off,none⟩/\b<w.heap.size/\∀j (h:j<l.length),w.cell? ⟨b,off+j*3,none⟩=some (.bool l[j].neg)/\w.cell? ⟨b,off+j*3+1,none⟩=some (.string l[j].num)/\w.cell? ⟨b,off+j*3+2,none⟩=some (.string l[j].den)/\sB maxLen l[j]):=by
 obtain ⟨a,cap,hv,h1,h2,h3,h4⟩:=h;simp only [List.cons.injEq,and_true] at hv;refine ⟨a,cap,hv,dX h1 h2,?_⟩;rcases h4 with h4|⟨b,off,h5,h6,h7⟩
 ·exact .inl h4
 refine .inr ⟨b,off,h5,h6,fun j hj=>?_⟩;obtain ⟨cs,k1,k2,rfl,k3,k4⟩:=h7 j hj;exact ⟨k2 0 (by decide),k2 1 (by decide),k2 2 (by decide),k3,k4⟩
theorem vZ (w:World) (S:Nat->Prop) (r:GRat) (h:sB maxLen r):x6 w S [.bool r.neg,.string r.num,.string r.den] r:=⟨rfl,h.1,h.2⟩
def iS (rs:List GRat) (j:Nat):Value:=if j%3=0 then .bool (rs.getD (j/3) gZ).neg else if j%3=1 then .string (rs.getD (j/3) gZ).num else .string (rs.getD (j/3) gZ).den
def OwnR (w:World) (g n:Nat) (rs:List GRat):Prop:=rs.length=n/\Own w g 32 (n*3) (iS rs)
theorem Hw (rs:List GRat) (k:Nat):iS rs (k*3)= .bool (rs.getD k gZ).neg:=by
 unfold iS;rw [if_pos (by omega),show k*3/3=k by omega]
theorem Hx (rs:List GRat) (k:Nat):iS rs (k*3+1)= .string (rs.getD k gZ).num:=by
 unfold iS;rw [if_neg (by omega),if_pos (by omega),show (k*3+1)/3=k by omega]
theorem wg (rs:List GRat) (k:Nat):iS rs (k*3+2)= .string (rs.getD k gZ).den:=by
 unfold iS;rw [if_neg (by omega),if_neg (by omega),show (k*3+2)/3=k by omega]
theorem OwnR.facts {w:World} {g n:Nat} {rs:List GRat} (h:OwnR w g n rs) {k:Nat} (hk:k<n):
  w.cell? ⟨g,k*3,none⟩=some (.bool (rs.getD k gZ).neg)/\w.cell? ⟨g,k*3+1,none⟩=some (.string (rs.getD k gZ).num)/\w.cell? ⟨g,k*3+2,none⟩=some (.string (rs.getD k gZ).den)/\(∀j,w.frozen? ⟨g,j,none⟩=false)/\g<w.heap.size:=by
 have h1:=h.2.cell (j:=k*3) (by omega);have h2:=h.2.cell (j:=k*3+1) (by omega);have h3:=h.2.cell (j:=k*3+2) (by omega);rw [Hw] at h1;rw [Hx] at h2;rw [wg] at h3;exact ⟨h1,h2,h3,fun j=>h.2.frozen j,h.2.lt⟩
theorem OwnR.put {w:World} {g n:Nat} {rs:List GRat} (h:OwnR w g n rs) {k:Nat} (hk:k<n) (r:GRat):
  OwnR (((w.setCell ⟨g,k*3,none⟩ (.bool r.neg)).setCell ⟨g,k*3+1,none⟩ (.string r.num)).setCell ⟨g,k*3+2,none⟩ (.string r.den)) g n (rs.set k r):=by
 refine ⟨by rw [List.length_set];exact h.1,(((h.2.set _ _).set _ _).set _ _).congr fun j hj=>?_⟩;have hk':k<rs.length:=by rw [h.1];exact hk
 unfold upd;by_cases e2:j=k*3+2
 ·rw [if_pos e2,e2,wg];simp [List.getD,hk']
 rw [if_neg e2];by_cases e1:j=k*3+1
 ·rw [if_pos e1,e1,Hx];simp [List.getD,hk']
 rw [if_neg e1];by_cases e0:j=k*3
 ·rw [if_pos e0,e0,Hw];simp [List.getD,hk']
 rw [if_neg e0];have hne:¬k=j/3:=by omega
 unfold iS;simp [List.getD,hne]
theorem OwnR.below {w w':World} {g n:Nat} {rs:List GRat} (h:OwnR w g n rs) (hb:Below w.heap.size w w'):OwnR w' g n rs:=⟨h.1,h.2.below hb h.2.lt⟩
theorem OwnR.alloc {w:World} {g n:Nat} {rs:List GRat} (h:OwnR w g n rs) (o:Obj):OwnR (w.alloc o) g n rs:=⟨h.1,h.2.alloc o⟩
theorem OwnR.drew {w:World} {g n:Nat} {rs:List GRat} (h:OwnR w g n rs):OwnR w.drew g n rs:=h
theorem OwnR.other {w:World} {g g' n:Nat} {rs:List GRat} (h:OwnR w g n rs) (hne:g'≠g) (r:GRat):OwnR (lz w g' r) g n rs:=⟨h.1,((h.2.other hne _ _).other hne _ _).other hne _ _⟩
theorem OwnR.new (w:World) (n:Nat):OwnR (w.alloc (.cells (madeCells #[.bool false,.string {data:= #[]},.string {data:= #[]}] (n*3)) 32)) w.heap.size n (List.replicate n gZ):=by
 refine ⟨by simp,?_⟩;unfold Own;rw [heap_alloc_new];congr 2;apply Array.ext
 ·simp [madeCells]
 intro i h1 h2;have hi:i<n*3:=by simpa using h2
 have e:(List.replicate n gZ).getD (i/3) gZ=gZ:=by simp [List.getD,List.getElem?_replicate];split<;>rfl
 simp only [madeCells,Array.getElem_map,Array.getElem_range,iS,e];have:i%3=0∨i%3=1∨i%3=2:=by omega
 rcases this with h|h|h<;>simp [h]<;>rfl
theorem OwnR.reads {w:World} {g n:Nat} {rs:List GRat} (h:OwnR w g n rs) (hn:n<=maxLen) (hs:∀r∈rs,sB maxLen r):RL w (.slice (some ⟨g,0,none⟩) n n) rs:=by
 refine ⟨some ⟨g,0,none⟩,n,by rw [h.1],by rw [h.1];exact Nat.le_refl _,hn,by simp,.inr ⟨g,0,rfl,h.2.lt,fun j hj=>⟨[.bool rs[j].neg,.string rs[j].num,.string rs[j].den],rfl,?_,vZ _ _ _ (hs _ (List.getElem_mem hj))⟩⟩⟩;intro c hc;obtain ⟨f0,f1,f2,_⟩:=h.facts (k:=j) (by rw [←h.1];exact hj);have e:rs.getD j gZ=rs[j]:=by simp [List.getD,hj]
 rw [e] at f0 f1 f2;have:c=0∨c=1∨c=2:=by omega
 rcases this with rfl|rfl|rfl
 ·simpa using f0
 ·simpa using f1
 simpa using f2
attribute [local go_sem ↓] Go.wp_at_zero Go.wp_at_succ
def RSt (w wr:World) (W:GRat) (n:Nat) (rs:List GRat) (s o:GRat):Prop:=
 Bx wr w.heap.size W/\OwnR wr (w.heap.size+1) n rs/\Bx wr (w.heap.size+1+1) s/\Bx wr (w.heap.size+1+1+1) o/\Below w.heap.size w wr
section
variable {w wr : World} {W : GRat} {n : Nat} {rs : List GRat} {s o : GRat}
theorem RSt.next {w':World} (h:RSt w wr W n rs s o) (hb:Below wr.heap.size wr w'):RSt w w' W n rs s o:=⟨h.1.below hb,h.2.1.below hb,h.2.2.1.below hb,h.2.2.2.1.below hb,h.2.2.2.2.step hb⟩
theorem RSt.drew (h:RSt w wr W n rs s o):RSt w wr.drew W n rs s o:=⟨h.1.drew,h.2.1.drew,h.2.2.1.drew,h.2.2.2.1.drew,Below.drew h.2.2.2.2⟩
theorem RSt.alloc (h:RSt w wr W n rs s o) (b:Obj):RSt w (wr.alloc b) W n rs s o:=h.next ((Below.refl _ _).alloc (Nat.le_refl _) _)
theorem RSt.putO (h:RSt w wr W n rs s o) (a:GRat):RSt w (lz wr (w.heap.size+1+1+1) a) W n rs s a:=
 ⟨h.1.other (by omega) a,h.2.1.other (by omega) a,h.2.2.1.other (by omega) a,h.2.2.2.1.put a,dS h.2.2.2.2 (by omega) a⟩
theorem RSt.lt (h:RSt w wr W n rs s o):w.heap.size+1+1+1<wr.heap.size:=Blk3.lt h.2.2.2.1
end
attribute [local go_sem ↓] Go.wp_at_zero Go.wp_at_succ
theorem RL.get {w:World} {v:Value} {l:List GRat} (h:RL w v l) {k:Nat} (hk:k<l.length):
  ∃b off cap,v= .slice (some ⟨b,off,none⟩) l.length cap/\b<w.heap.size/\l.length<=9223372036854775807/\∀j (h:j<l.length),w.cell? ⟨b,off+j*3,none⟩=some (.bool l[j].neg)/\w.cell? ⟨b,off+j*3+1,none⟩=some (.string l[j].num)/\w.cell? ⟨b,off+j*3+2,none⟩=some (.string l[j].den)/\sB maxLen l[j]:=by
 obtain ⟨a,cap,rfl,h1,h2⟩:=h.open;rcases h2 with h2|⟨b,off,rfl,hb,h3⟩
 ·rw [h2] at hk;simp at hk
 exact ⟨b,off,cap,rfl,hb,h1,h3⟩
def AwS (w5:World) (b off:Nat) (q0 q20:GRat) (w':World):Prop:=Below w5.heap.size w5 w'/\w'.cell? ⟨b,off,none⟩=some (.bool q0.neg)/\w'.cell? ⟨b,off+1,none⟩=some (.string q0.num)/\w'.cell? ⟨b,off+2,none⟩=some (.string q0.den)/\w'.cell? ⟨b,off+3,none⟩=some (.bool q20.neg)/\w'.cell? ⟨b,off+3+1,none⟩=some (.string q20.num)/\w'.cell? ⟨b,off+3+2,none⟩=some (.string q20.den)/\w'.cell? ⟨b,off+6,none⟩=some (.bool q20.neg)/\w'.cell? ⟨b,off+6+1,none⟩=some (.string q20.num)/\w'.cell? ⟨b,off+6+2,none⟩=some (.string q20.den)
theorem AwS.drew {w5 W:World} {b off:Nat} {q0 q20:GRat} (h:AwS w5 b off q0 q20 W):AwS w5 b off q0 q20 W.drew:=⟨Below.drew h.1,h.2⟩
theorem AwS.next {w5 W V:World} {b off:Nat} {q0 q20:GRat} (h:AwS w5 b off q0 q20 W) (hb:b<w5.heap.size) (hV:Below W.heap.size W V):AwS w5 b off q0 q20 V:=by
 have hc:∀o,V.cell? ⟨b,o,none⟩=W.cell? ⟨b,o,none⟩:=fun o=>hV.cell (p:=⟨b,o,none⟩) (Nat.lt_of_lt_of_le hb h.1.size)
 obtain ⟨h0,h⟩:=h;refine ⟨h0.step hV,?_⟩;simp only [hc];exact h
end Go.Proofs.YtcgpghifhehlhaaGreatDoor
namespace Go.Proofs.YtcgpghifhehlhaaGreatDoor
open Go Go.RowKit Go.Proofs.Tryz
theorem tR {P:Program} {f:FuncId} {args:List A1} {vs:List Value} {w:World} (h:ch P f args (one (.bool true))) (hd:cz (eP w) vs args):
  Calls P f vs.toArray w fun e w'=>e= .returned (.bool true)/\Below w.heap.size w w':=
 (h.2 w (LT w.heap.size) vs (fun _ h=>h) hd).mono fun e w' ⟨v,he,hb,hv⟩=>by
  have:v= .bool true:=hv.1;subst this;exact ⟨he,hb⟩
theorem fH {α:Type} {enc:α->List C} {ok:α->Prop} {W:World} {v:Value} {a:α} {c:C} (o:rC enc ok W (LT W.heap.size) [v] a) (he:enc a=[c]):bb (eP W) v (.one c)/\ok a:=by
 obtain ⟨h,k⟩:=o;rw [he] at h;exact ⟨h.1,k⟩
end Go.Proofs.YtcgpghifhehlhaaGreatDoor
namespace Go.Proofs.YtcgpghifhehlhaaGreatDoor
open Go Go.RowKit Go.ChangeShapes Go.WideShapes Go.ChangeAt Go.Proofs.Tryz

end Go.Proofs.YtcgpghifhehlhaaGreatDoor
namespace Go.Proofs.YtcgpghifhehlhaaGreatDoor
open Go Go.RowKit Go.Proofs.Tryz
section
variable {P : Program} {e : En} {k0 : Kx} {N : Nat} {st : St} {a : Act} {w : World} {Q : Exit → St → Prop} {c : Code}
end
section
variable {P : Program} {e : En} {k0 : Kx} {N : Nat} {st : St} {Q : Exit → St → Prop} {c : Code}
end
section
variable (A B : List C) (x y : C) (s s' : GRat)
end
theorem DW (r:GRat) (h1:r.num.size<=500000000000) (h2:r.den.size<=500000000000):ch prog 108 [.agg (cS r)] (.val (.agg (cS (enc (qOf r))))):=
 eE (iv func108 (by decide) (by kernel_rfl)) [aN r] (aN (enc (qOf r))) fun w=>cW r w h1 h2
theorem B8 (p:Rat) (m:Nat) (hp:qB m p) (hm:m<=100000000000):ch prog 108 [.agg (cS (enc p))] (.val (.agg (cS (enc p)))):=by
 have h:=DW (enc p) (by have:=(eH hp).1;omega) (by have:=(eH hp).2;omega);rwa [Aw] at h
theorem El (q:Rat):ch prog 124 [.agg (cS (enc q))] (one (.string (al q.den))):=
 eE (iv func124 (by decide) (by kernel_rfl)) [aN (enc q)] (.string (al q.den)) fun w=>jA q w
theorem DN (a b:ByteArray) (ha:a.size<=500000000000) (hb:b.size<=500000000000):ch prog 123 [.one (.lit (.string a)),.one (.lit (.string b))] (one (.string (al (ah a*ah b)))):=
 eE (iv func123 (by decide) (by kernel_rfl)) [.string a,.string b] (.string (al (ah a*ah b))) fun w=>eh a b w ha hb
theorem DO (s:ByteArray) (hs:s.size<=400000000000):ch prog 111 [.one (.lit (.string s))] (one (.string (al (ah s)))):=
 eE (iv func111 (by decide) (by kernel_rfl)) [.string s] (.string (al (ah s))) fun w=>(bH s w (by unfold maxLen;omega)).mono fun e w' ⟨h1,h2⟩=>⟨h1,h2▸Below.refl _ _⟩
theorem CT (neg:Bool) (a b:ByteArray) (ha:a.size<=400000000000) (hb:b.size<=400000000000) (hd:0<ah b):ch prog 71 [.one (.lit (.bool neg)),.one (.lit (.string a)),.one (.lit (.string b))] (.val (.agg (cS (enc (mkRat (sg neg (ah a)) (ah b)))))):=
 eE (iv func71 (by decide) (by kernel_rfl)) [.bool neg,.string a,.string b] (aN (enc (mkRat (sg neg (ah a)) (ah b)))) fun w=>fj neg a b w ha hb hd
theorem CU (n:Nat):(al n={data:= #[]})↔n=0:=⟨fun h=>nv.1 (by rw [h];rfl),fun h=>by subst h;exact gf⟩
theorem CV (z:Int):mkRat z 0=0:=by simp [mkRat]
theorem Em (p q:Rat):mkRat (sg (bU p !=bU q) (p.num.natAbs*q.den)) (p.den*q.num.natAbs)=p/q:=by
 by_cases h:q=0
 ·subst h;rw [Rat.div_def,Rat.inv_zero,Rat.mul_zero];simp [CV]
 exact (B7 h).symm
theorem E3 (q:Rat):q.num.natAbs=0↔q=0:=by simp
def F0:=And.intro zS (And.intro tf0 (And.intro tf1 (tf2)))
theorem F1:type_of%F0:=F0
theorem CW (neg:Bool) (a b:ByteArray) (ha:a.size<=400000000000) (hb:b.size<=400000000000):ch prog 99 [.one (.lit (.bool neg)),.one (.lit (.string a)),.one (.lit (.string b))] (.tup [.agg (cS (enc (mkRat (sg neg (ah a)) (ah b)))),.one (.lit (.bool (decide (ah b≠0))))]):=by
 refine bF func99 rfl (by decide) (N:=16) rfl (by simp) (R:=[.cell 6 32,.tmp 7]) rfl fun en k0=>?_
 refine awN ?_;simp only [F1,seval];by_cases h0:ah b=0
 ·skip;have hx:al (ah b)={data:= #[]}:=(CU _).2 h0;refine awN ?_;simp only [F1,seval];refine ⟨_,(DO b hb),rfl,?_⟩;try simp only [aq,F1,seval,hx]
  refine awT ?_;refine awN ?_;simp only [F1,seval];refine awX ?_;simp only [F1,seval];rw [h0,CV,←ln];simp [cS,gZ,cc]
 skip;have hx:¬al (ah b)={data:= #[]}:=fun h=>h0 ((CU _).1 h)
 refine awN ?_;simp only [F1,seval];refine ⟨_,(DO b hb),rfl,?_⟩;try simp only [aq,F1,seval,hx]
 refine awF ?_;refine awK ?_;simp only [F1,seval];refine awN ?_;simp only [F1,seval,cS];refine ⟨_,(CT neg a b ha hb (Nat.pos_of_ne_zero h0)),rfl,?_⟩;try simp only [aq,F1,seval,cS]
 refine awX ?_;simp only [F1,seval];simp [h0]
def F2:=And.intro zS (And.intro tf3 (And.intro tf4 (And.intro tf0 (And.intro tf5 (And.intro tf6 (And.intro tf7 (tf2)))))))
theorem F3:type_of%F2:=F2
theorem E4 (p q:Rat) (m n:Nat) (hp:qB m p) (hq:qB n q) (hm:m<=100000000000) (hn:n<=100000000000):ch prog 187 [.agg (cS (enc p)),.agg (cS (enc q))] (.tup [.agg (cS (enc (p/q))),.one (.lit (.bool (decide (q≠0))))]):=by
 have s1:(al p.num.natAbs).size<=m:=NB.size hp.1;have s2:(al q.num.natAbs).size<=n:=NB.size hq.1;have s3:(al p.den).size<=m:=NB.size hp.2;have s4:(al q.den).size<=n:=NB.size hq.2;have nx:(al (p.num.natAbs*q.den)).size<=m+n:=NB.size (NB.mul hp.1 hq.2);have ny:(al (p.den*q.num.natAbs)).size<=m+n:=NB.size (NB.mul hp.2 hq.1);have hMk:=CW (bU p !=bU q) (al (p.num.natAbs*q.den)) (al (p.den*q.num.natAbs)) (by omega) (by omega);rw [aw,aw,Em] at hMk;have hd0:decide (p.den*q.num.natAbs≠0)=decide (q≠0):=by
  have h1:=p.den_pos;have h2:=E3 q;by_cases h3:q=0
  ·simp [h3]
  have h4:q.num.natAbs≠0:=fun h=>h3 (h2.1 h)
  have h5:p.den*q.num.natAbs≠0:=Nat.mul_ne_zero (by omega) h4;simp [h3,h5]
 rw [hd0] at hMk;have hMk2:ch prog 99 [.one (.lit (.bool (!(enc p).neg==(enc q).neg))),.one (.lit (.string (al (p.num.natAbs*q.den)))),.one (.lit (.string (al (p.den*q.num.natAbs))))] (.tup [.agg (cS (enc (p/q))),.one (.lit (.bool (decide (q≠0))))]):=hMk;simp only [cS] at hMk2;refine bF func187 rfl (by decide) (N:=28) rfl (by simp) (R:=[.cell 4 32,.tmp 5]) rfl fun en k0=>?_
 refine awN ?_;simp only [F3,seval,cS];refine awD (scq [1,5,2,6,8,10] .nil) [0,0,0,0,0,0] ?_;simp only [F3,seval];refine ⟨_,(B8 p m hp (by omega)),rfl,?_⟩;try simp only [aq,F3,seval,cS]
 refine ⟨_,(B8 q n hq (by omega)),rfl,?_⟩;try simp only [aq,F3,seval,cS]
 refine awD (scT 0 8 (scq [21,25,27,16,18,22,28,30,33,35,36,39] .nil)) [0,0,0,0,0,0,0,0,0,0,0,0,0,0,0,0,0,0,0,0] ?_;simp only [F3,seval];refine ⟨_,(El q),rfl,?_⟩;try simp only [aq,F3,seval]
 refine ⟨_,(DN (al p.num.natAbs) (al q.den) (by omega) (by omega)),rfl,?_⟩;try simp only [aq,F3,seval,aw]
 refine ⟨_,(El p),rfl,?_⟩;try simp only [aq,F3,seval]
 refine ⟨_,(DN (al p.den) (al q.num.natAbs) (by omega) (by omega)),rfl,?_⟩;try simp only [aq,F3,seval,aw]
 refine ⟨_,hMk2,rfl,?_⟩;try simp only [aq,F3,seval]
 refine awX ?_;(first|(simp only [F3,seval];done)|(simp only [F3,seval,cS];first|(simp [];done)))
end Go.Proofs.YtcgpghifhehlhaaGreatDoor
