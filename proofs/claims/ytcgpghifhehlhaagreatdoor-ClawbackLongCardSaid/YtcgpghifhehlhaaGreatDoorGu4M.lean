/- guarantee.Refunds: walked. -/
import Derived.Test.YtcgpghifhehlhaaGreatDoorOw3M
import Derived.Deep.DeepCutAuto
import Derived.Deep.RegionHeld3
import Derived.Test.YtcgpghifhehlhaaGreatDoorRw5M
import Derived.Test.YtcgpghifhehlhaaGreatDoorLawM
import Derived.Test.YtcgpghifhehlhaaGreatDoorCc2M
import Derived.Test.YtcgpghifhehlhaaGreatDoorSplM
import Derived.Test.YtcgpghifhehlhaaGreatDoorAbGM
set_option linter.unusedVariables false
set_option maxHeartbeats 4000000
set_option maxRecDepth 100000
set_option linter.unusedSimpArgs false
set_option linter.defProp false
set_option linter.unusedSectionVars false
namespace Go.Proofs.YtcgpghifhehlhaaGreatDoor
open Go.RowKit Go.Proofs.Tryz
attribute [local go_sem ↓] Go.wp_at_zero Go.wp_at_succ
def RSt (w wr:World) (W:GRat) (n:Nat) (rs:List GRat) (s o:GRat):Prop:=
 Bx wr w.heap.size W/\OwnR wr (w.heap.size+1) n rs/\Bx wr (w.heap.size+1+1) s/\Bx wr (w.heap.size+1+1+1) o/\Below w.heap.size w wr
section
variable {w wr : World} {W : GRat} {n : Nat} {rs : List GRat} {s o : GRat}
theorem RSt.next {w':World} (h:RSt w wr W n rs s o) (hb:Below wr.heap.size wr w'):RSt w w' W n rs s o:=⟨h.1.below hb,h.2.1.below hb,h.2.2.1.below hb,h.2.2.2.1.below hb,h.2.2.2.2.step hb⟩
theorem RSt.drew (h:RSt w wr W n rs s o):RSt w wr.drew W n rs s o:=⟨h.1.drew,h.2.1.drew,h.2.2.1.drew,h.2.2.2.1.drew,Below.drew h.2.2.2.2⟩
theorem RSt.alloc (h:RSt w wr W n rs s o) (b:Obj):RSt w (wr.alloc b) W n rs s o:=h.next ((Below.refl _ _).alloc (Nat.le_refl _) _)
theorem RSt.putO (h:RSt w wr W n rs s o) (a:GRat):RSt w (lz wr (w.heap.size+1+1+1) a) W n rs s a:=
 ⟨h.1.other (by omega) a,h.2.1.other (by omega) a,h.2.2.1.other (by omega) a,h.2.2.2.1.put a,dS h.2.2.2.2 (by omega) a⟩
theorem RSt.lt (h:RSt w wr W n rs s o):w.heap.size+1+1+1<wr.heap.size:=Blk3.lt h.2.2.2.1
end
attribute [local go_sem ↓] Go.wp_at_zero Go.wp_at_succ
theorem RL.get {w:World} {v:Value} {l:List GRat} (h:RL w v l) {k:Nat} (hk:k<l.length):
  ∃b off cap,v= .slice (some ⟨b,off,none⟩) l.length cap/\b<w.heap.size/\l.length<=9223372036854775807/\∀j (h:j<l.length),w.cell? ⟨b,off+j*3,none⟩=some (.bool l[j].neg)/\w.cell? ⟨b,off+j*3+1,none⟩=some (.string l[j].num)/\w.cell? ⟨b,off+j*3+2,none⟩=some (.string l[j].den)/\sB maxLen l[j]:=by
 obtain ⟨a,cap,rfl,h1,h2⟩:=h.open;rcases h2 with h2|⟨b,off,rfl,hb,h3⟩
 ·rw [h2] at hk;simp at hk
 exact ⟨b,off,cap,rfl,hb,h1,h3⟩
def AwS (w5:World) (b off:Nat) (q0 q20:GRat) (w':World):Prop:=Below w5.heap.size w5 w'/\w'.cell? ⟨b,off,none⟩=some (.bool q0.neg)/\w'.cell? ⟨b,off+1,none⟩=some (.string q0.num)/\w'.cell? ⟨b,off+2,none⟩=some (.string q0.den)/\w'.cell? ⟨b,off+3,none⟩=some (.bool q20.neg)/\w'.cell? ⟨b,off+3+1,none⟩=some (.string q20.num)/\w'.cell? ⟨b,off+3+2,none⟩=some (.string q20.den)/\w'.cell? ⟨b,off+6,none⟩=some (.bool q20.neg)/\w'.cell? ⟨b,off+6+1,none⟩=some (.string q20.num)/\w'.cell? ⟨b,off+6+2,none⟩=some (.string q20.den)
theorem AwS.drew {w5 W:World} {b off:Nat} {q0 q20:GRat} (h:AwS w5 b off q0 q20 W):AwS w5 b off q0 q20 W.drew:=⟨Below.drew h.1,h.2⟩
theorem AwS.next {w5 W V:World} {b off:Nat} {q0 q20:GRat} (h:AwS w5 b off q0 q20 W) (hb:b<w5.heap.size) (hV:Below W.heap.size W V):AwS w5 b off q0 q20 V:=by
 have hc:∀o,V.cell? ⟨b,o,none⟩=W.cell? ⟨b,o,none⟩:=fun o=>hV.cell (p:=⟨b,o,none⟩) (Nat.lt_of_lt_of_le hb h.1.size)
 obtain ⟨h0,h⟩:=h;refine ⟨h0.step hV,?_⟩;simp only [hc];exact h
end Go.Proofs.YtcgpghifhehlhaaGreatDoor
namespace Go.Proofs.YtcgpghifhehlhaaGreatDoor
open Go Go.RowKit Go.Proofs.Tryz
theorem tR {P:Program} {f:FuncId} {args:List A1} {vs:List Value} {w:World} (h:ch P f args (one (.bool true))) (hd:cz (eP w) vs args):
  Calls P f vs.toArray w fun e w'=>e= .returned (.bool true)/\Below w.heap.size w w':=
 (h.2 w (LT w.heap.size) vs (fun _ h=>h) hd).mono fun e w' ⟨v,he,hb,hv⟩=>by
  have:v= .bool true:=hv.1;subst this;exact ⟨he,hb⟩
theorem fH {α:Type} {enc:α->List C} {ok:α->Prop} {W:World} {v:Value} {a:α} {c:C} (o:rC enc ok W (LT W.heap.size) [v] a) (he:enc a=[c]):bb (eP W) v (.one c)/\ok a:=by
 obtain ⟨h,k⟩:=o;rw [he] at h;exact ⟨h.1,k⟩
end Go.Proofs.YtcgpghifhehlhaaGreatDoor
namespace Go.Proofs.YtcgpghifhehlhaaGreatDoor
open Go Go.RowKit Go.ChangeShapes Go.WideShapes Go.ChangeAt Go.Proofs.Tryz

end Go.Proofs.YtcgpghifhehlhaaGreatDoor
namespace Go.Proofs.YtcgpghifhehlhaaGreatDoor
open Go Go.RowKit Go.Proofs.Tryz
section
variable {P : Program} {e : En} {k0 : Kx} {N : Nat} {st : St} {a : Act} {w : World} {Q : Exit → St → Prop} {c : Code}
end
section
variable {P : Program} {e : En} {k0 : Kx} {N : Nat} {st : St} {Q : Exit → St → Prop} {c : Code}
end
section
variable (A B : List C) (x y : C) (s s' : GRat)
end
theorem DW (r:GRat) (h1:r.num.size<=500000000000) (h2:r.den.size<=500000000000):ch prog 108 [.agg (cS r)] (.val (.agg (cS (enc (qOf r))))):=
 eE (iv func108 (by decide) (by kernel_rfl)) [aN r] (aN (enc (qOf r))) fun w=>cW r w h1 h2
theorem B8 (p:Rat) (m:Nat) (hp:qB m p) (hm:m<=100000000000):ch prog 108 [.agg (cS (enc p))] (.val (.agg (cS (enc p)))):=by
 have h:=DW (enc p) (by have:=(eH hp).1;omega) (by have:=(eH hp).2;omega);rwa [Aw] at h
theorem El (q:Rat):ch prog 124 [.agg (cS (enc q))] (one (.string (al q.den))):=
 eE (iv func124 (by decide) (by kernel_rfl)) [aN (enc q)] (.string (al q.den)) fun w=>jA q w
theorem DN (a b:ByteArray) (ha:a.size<=500000000000) (hb:b.size<=500000000000):ch prog 123 [.one (.lit (.string a)),.one (.lit (.string b))] (one (.string (al (ah a*ah b)))):=
 eE (iv func123 (by decide) (by kernel_rfl)) [.string a,.string b] (.string (al (ah a*ah b))) fun w=>eh a b w ha hb
theorem DO (s:ByteArray) (hs:s.size<=400000000000):ch prog 111 [.one (.lit (.string s))] (one (.string (al (ah s)))):=
 eE (iv func111 (by decide) (by kernel_rfl)) [.string s] (.string (al (ah s))) fun w=>(bH s w (by unfold maxLen;omega)).mono fun e w' ⟨h1,h2⟩=>⟨h1,h2▸Below.refl _ _⟩
theorem CT (neg:Bool) (a b:ByteArray) (ha:a.size<=400000000000) (hb:b.size<=400000000000) (hd:0<ah b):ch prog 71 [.one (.lit (.bool neg)),.one (.lit (.string a)),.one (.lit (.string b))] (.val (.agg (cS (enc (mkRat (sg neg (ah a)) (ah b)))))):=
 eE (iv func71 (by decide) (by kernel_rfl)) [.bool neg,.string a,.string b] (aN (enc (mkRat (sg neg (ah a)) (ah b)))) fun w=>fj neg a b w ha hb hd
theorem CU (n:Nat):(al n={data:= #[]})↔n=0:=⟨fun h=>nv.1 (by rw [h];rfl),fun h=>by subst h;exact gf⟩
theorem CV (z:Int):mkRat z 0=0:=by simp [mkRat]
theorem Em (p q:Rat):mkRat (sg (bU p !=bU q) (p.num.natAbs*q.den)) (p.den*q.num.natAbs)=p/q:=by
 by_cases h:q=0
 ·subst h;rw [Rat.div_def,Rat.inv_zero,Rat.mul_zero];simp [CV]
 exact (B7 h).symm
theorem E3 (q:Rat):q.num.natAbs=0↔q=0:=by simp
def F50:=And.intro zS (And.intro jS (And.intro z8 (Aa)))
theorem F51:type_of%F50:=F50
theorem CW (neg:Bool) (a b:ByteArray) (ha:a.size<=400000000000) (hb:b.size<=400000000000):ch prog 99 [.one (.lit (.bool neg)),.one (.lit (.string a)),.one (.lit (.string b))] (.tup [.agg (cS (enc (mkRat (sg neg (ah a)) (ah b)))),.one (.lit (.bool (decide (ah b≠0))))]):=by
 refine bF func99 rfl (by decide) (N:=16) rfl (by simp) (R:=[.cell 6 32,.tmp 7]) rfl fun en k0=>?_
 refine awN ?_;simp only [F51,seval];by_cases h0:ah b=0
 ·skip;have hx:al (ah b)={data:= #[]}:=(CU _).2 h0;refine awN ?_;simp only [F51,seval];refine ⟨_,(DO b hb),rfl,?_⟩;try simp only [aq,F51,seval,hx]
  refine awT ?_;refine awN ?_;simp only [F51,seval];refine awX ?_;simp only [F51,seval];rw [h0,CV,←ln];simp [cS,gZ,cc]
 skip;have hx:¬al (ah b)={data:= #[]}:=fun h=>h0 ((CU _).1 h)
 refine awN ?_;simp only [F51,seval];refine ⟨_,(DO b hb),rfl,?_⟩;try simp only [aq,F51,seval,hx]
 refine awF ?_;refine awK ?_;simp only [F51,seval];refine awN ?_;simp only [F51,seval,cS];refine ⟨_,(CT neg a b ha hb (Nat.pos_of_ne_zero h0)),rfl,?_⟩;try simp only [aq,F51,seval,cS]
 refine awX ?_;simp only [F51,seval];simp [h0]
def F52:=And.intro zS (And.intro Ae (And.intro Af (And.intro jS (And.intro xi (And.intro Ag (And.intro Ah (Aa)))))))
theorem F53:type_of%F52:=F52
theorem E4 (p q:Rat) (m n:Nat) (hp:qB m p) (hq:qB n q) (hm:m<=100000000000) (hn:n<=100000000000):ch prog 187 [.agg (cS (enc p)),.agg (cS (enc q))] (.tup [.agg (cS (enc (p/q))),.one (.lit (.bool (decide (q≠0))))]):=by
 have s1:(al p.num.natAbs).size<=m:=NB.size hp.1;have s2:(al q.num.natAbs).size<=n:=NB.size hq.1;have s3:(al p.den).size<=m:=NB.size hp.2;have s4:(al q.den).size<=n:=NB.size hq.2;have nx:(al (p.num.natAbs*q.den)).size<=m+n:=NB.size (NB.mul hp.1 hq.2);have ny:(al (p.den*q.num.natAbs)).size<=m+n:=NB.size (NB.mul hp.2 hq.1);have hMk:=CW (bU p !=bU q) (al (p.num.natAbs*q.den)) (al (p.den*q.num.natAbs)) (by omega) (by omega);rw [aw,aw,Em] at hMk;have hd0:decide (p.den*q.num.natAbs≠0)=decide (q≠0):=by
  have h1:=p.den_pos;have h2:=E3 q;by_cases h3:q=0
  ·simp [h3]
  have h4:q.num.natAbs≠0:=fun h=>h3 (h2.1 h)
  have h5:p.den*q.num.natAbs≠0:=Nat.mul_ne_zero (by omega) h4;simp [h3,h5]
 rw [hd0] at hMk;have hMk2:ch prog 99 [.one (.lit (.bool (!(enc p).neg==(enc q).neg))),.one (.lit (.string (al (p.num.natAbs*q.den)))),.one (.lit (.string (al (p.den*q.num.natAbs))))] (.tup [.agg (cS (enc (p/q))),.one (.lit (.bool (decide (q≠0))))]):=hMk;simp only [cS] at hMk2;refine bF func187 rfl (by decide) (N:=28) rfl (by simp) (R:=[.cell 4 32,.tmp 5]) rfl fun en k0=>?_
 refine awN ?_;simp only [F53,seval,cS];refine awD (scq [1,5,2,6,8,10] .nil) [0,0,0,0,0,0] ?_;simp only [F53,seval];refine ⟨_,(B8 p m hp (by omega)),rfl,?_⟩;try simp only [aq,F53,seval,cS]
 refine ⟨_,(B8 q n hq (by omega)),rfl,?_⟩;try simp only [aq,F53,seval,cS]
 refine awD (scT 0 8 (scq [21,25,27,16,18,22,28,30,33,35,36,39] .nil)) [0,0,0,0,0,0,0,0,0,0,0,0,0,0,0,0,0,0,0,0] ?_;simp only [F53,seval];refine ⟨_,(El q),rfl,?_⟩;try simp only [aq,F53,seval]
 refine ⟨_,(DN (al p.num.natAbs) (al q.den) (by omega) (by omega)),rfl,?_⟩;try simp only [aq,F53,seval,aw]
 refine ⟨_,(El p),rfl,?_⟩;try simp only [aq,F53,seval]
 refine ⟨_,(DN (al p.den) (al q.num.natAbs) (by omega) (by omega)),rfl,?_⟩;try simp only [aq,F53,seval,aw]
 refine ⟨_,hMk2,rfl,?_⟩;try simp only [aq,F53,seval]
 refine awX ?_;(first|(simp only [F53,seval];done)|(simp only [F53,seval,cS];first|(simp [];done)))
end Go.Proofs.YtcgpghifhehlhaaGreatDoor
