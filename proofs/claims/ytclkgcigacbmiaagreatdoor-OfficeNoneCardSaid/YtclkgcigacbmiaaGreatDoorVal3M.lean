/- insolvencyref1: Valid, Fix: walked. -/
import Derived.Test.YtclkgcigacbmiaaGreatDoorRef10M
import Derived.Test.YtclkgcigacbmiaaGreatDoorNat19M
import Derived.Deep.RegionHeld3
import Derived.Deep.DeepCutAuto
set_option linter.unusedVariables false
set_option maxHeartbeats 2000000
set_option maxRecDepth 100000
set_option linter.unusedSimpArgs false
namespace Go.Proofs.YtclkgcigacbmiaaGreatDoor
open Go.RowKit Go.Proofs.Tryz

theorem dq (q:Rat) (w:World):Calls prog 171 #[az (enc q)] w fun e w'=>e= .returned (.string (ae q.den))/\Below w.heap.size w w':=by
 by_cases h:q.den=1
 ·have e1:(enc q).den={data:= #[]}:=by unfold enc;simp only [h,if_true];rfl
  rw [h,bH];unfold az;rw [e1];generalize enc q=a at *
  clear h e1;go_enter func171,ntmps171
  go_wp2
  go_ret
  exact ⟨rfl,(Below.refl _ _).alloc (Nat.le_refl _) _⟩
 have e1:(enc q).den=ae q.den:=by unfold enc;simp only [h,if_false]
 have hne:=fV (dd q.den_nz);unfold az;rw [e1];generalize ae q.den=d at *
 generalize enc q=a at *
 clear h e1;go_enter func171,ntmps171
 go_wp2
 go_ret
 exact ⟨rfl,(Below.refl _ _).alloc (Nat.le_refl _) _⟩
theorem iy (r:GRat) (w:World):Calls prog 167 #[az r] w fun e w'=>e= .returned (.int .i64 (mO r))/\Below w.heap.size w w':=by
 unfold az;by_cases h:r.num.size=0
 ·have hz:r.num={data:= #[]}:=ByteArray.ext (Array.eq_empty_of_size_eq_zero h);have hR:=hid (show mO r=0 by unfold mO;rw [if_pos h]);rw [hz];clear h hz;go_enter func167,ntmps167
  go_wp2
  go_ret
  exact ⟨aS hR.out.symm,(Below.refl _ _).alloc (Nat.le_refl _) _⟩
 have hz:=fV h;cases hn:r.neg with
 |true=>
  have hR:=hid (show mO r= -1 by unfold mO;rw [if_neg h,if_pos hn]);clear h hn;go_enter func167,ntmps167
  go_wp2
  go_ret
  exact ⟨aS hR.out.symm,(Below.refl _ _).alloc (Nat.le_refl _) _⟩
 |false=>
  have hR:=hid (show mO r=1 by unfold mO;rw [if_neg h,if_neg (by rw [hn];decide)]);clear h hn;go_enter func167,ntmps167
  go_wp2
  go_ret
  exact ⟨aS hR.out.symm,(Below.refl _ _).alloc (Nat.le_refl _) _⟩
theorem mP (r:GRat) (w:World) (hv:r.num.size=0->r.neg=false):Calls prog 173 #[az r] w fun e w'=>e= .returned (az (pW r))/\Below w.heap.size w w':=by
 by_cases h:r.num.size=0
 ·have hz:r.num={data:= #[]}:=ByteArray.ext (Array.eq_empty_of_size_eq_zero h);have hn:=hv h;have hR:=hid (show pW r=r by unfold pW;rw [if_pos h]);rw [hR.out];unfold az;rw [hz,hn];clear h hz hn hv;go_enter func173,ntmps173
  go_wp2
  go_returns
  exact ⟨rfl,((Below.refl _ _).alloc (Nat.le_refl _) _).alloc (by simp) _⟩
 have hz:=fV h;have hR:=hid (show pW r=⟨!r.neg,r.num,r.den⟩ by unfold pW;rw [if_neg h]);rw [hR.out];unfold az;clear h hv;cases hn:r.neg
 ·clear hn;go_enter func173,ntmps173
  go_wp2
  go_returns
  exact ⟨rfl,((Below.refl _ _).alloc (Nat.le_refl _) _).alloc (by simp) _⟩
 clear hn;go_enter func173,ntmps173
 go_wp2
 go_returns
 exact ⟨rfl,((Below.refl _ _).alloc (Nat.le_refl _) _).alloc (by simp) _⟩
theorem jF (n:Int) (w:World) (h0: -9223372036854775808<=n) (h1:n<=9223372036854775807):Calls prog 181 #[.int .i64 n] w fun e w'=>e= .returned (.string (ae n.natAbs))/\Below w.heap.size w w':=by
 have F:=hid (fun w=>gk n.natAbs w (by omega));by_cases h:n<0
 ·have e1:IntKind.u64.wrap (-(IntKind.u64.wrap n))=(n.natAbs:Int):=by rw [IntKind.wrap_u64,IntKind.wrap_u64];omega
  go_enter func181,ntmps181
  go_wp2_with fail
  refine Calls.mono (F.out _) ?_;rintro e w1 ⟨rfl,hb1⟩;go_wp2
  go_ret
  exact ⟨rfl,hb1⟩
 have e1:n=(n.natAbs:Int):=by omega
 have F2:=hid (fun w=>F.out w);rw [←e1] at F2;clear F e1;go_enter func181,ntmps181
 go_wp2_with fail
 refine Calls.mono (F2.out _) ?_;rintro e w1 ⟨rfl,hb1⟩;go_wp2
 go_ret
 exact ⟨rfl,hb1⟩
theorem rO:ae 0={data:= #[]}:=dn
theorem ks {P:Program} {fn:Func} {R:Ending->World->Prop} {a:Act} {W:World} {b T:Nat} {x y z:Value} {t:Bool} (h:Blk3 W b T x y z)
  (hres:∀W',W'.cell? ⟨b,0,none⟩=some x->W'.cell? ⟨b,1,none⟩=some y->W'.cell? ⟨b,2,none⟩=some z->(results fn a.tmps).run P W'= .ok (.tuple #[.agg #[x,y,z],.bool t]) W') (hd:a.defers=[]) (hR:R (.returned (.tuple #[.agg #[x,y,z],.bool t])) W):bodyPost P fn R .ret a W:=
 bodyPost_ret (hres W h.cells.1 h.cells.2.1 h.cells.2.2.1) hd hR
theorem bW (neg:Bool) (a b:ByteArray) (w:World) (ha:a.size<=400000000000) (hb:b.size<=400000000000) (hd:0<ac b):
  Calls prog 180 #[.bool neg,.string a,.string b] w fun e w'=>e= .returned (az (enc (mkRat (sg neg (ac a)) (ac b))))/\Below w.heap.size w w':=by
 have N1:=hid (fun w=>aH a w (by unfold maxLen;omega));have N2:=hid (fun w=>aH b w (by unfold maxLen;omega));have sa:=bG a;have sb:=bG b;have hx0:=hid (Bx1.new w);generalize ac a=N at *
 generalize ac b=D at *
 by_cases hN:N=0
 ·subst hN;rw [oV,Rat.zero_mkRat,←nL];rw [rO] at N1;unfold az;clear ha hb sa sb hd;generalize ae D=d at *
  go_enter func180,ntmps180
  go_wp2_with fail
  refine Calls.mono (N1.out _) ?_;rintro e w1 ⟨rfl,rfl⟩;go_wp2_with fail
  refine Calls.mono (N2.out _) ?_;rintro e w1 ⟨rfl,rfl⟩;go_wp2
  go_returns
  exact ⟨rfl,(Below.refl _ _).alloc (Nat.le_refl _) _⟩
 have hE:=kp (neg:=neg) (n:=N) (d:=D) hN (by omega);rw [hE];unfold az;simp only;have hn1:=fV (dd hN);obtain ⟨g,hg⟩:∃g,g=Nat.gcd N D:=⟨_,rfl⟩;have hg0:0<g:=by rw [hg];exact Nat.gcd_pos_of_pos_right _ hd
 have G:=hid (fun w=>ll (ae N) (ae D) w (by omega) (by omega));simp only [ai] at G;rw [←hg] at G ⊢;have sg':(ae g).size<=500000000000:=by
  have:(ae g).size<=(ae N).size:=by
   rw [aL,aL];exact dG (by rw [hg];exact Nat.gcd_le_left _ (by omega))
  omega
 have D1:=hid (fun w=>gX (ae N) (ae g) w (by omega) sg' (by rw [ai];exact hg0));have D2:=hid (fun w=>gX (ae D) (ae g) w (by omega) sg' (by rw [ai];exact hg0));simp only [ai] at D1 D2;by_cases hD:D=1
 ·subst hD;have hg1:g=1:=by rw [hg];exact Nat.gcd_one_right N
  subst hg1;have HR:=hid (show ae (N/1)=ae N/\(if 1/1=1 then aD else ae (1/1))=({data:= #[]}:ByteArray) from ⟨by rw [Nat.div_one],rfl⟩);rw [HR.out.1,HR.out.2];rw [bH] at N2;generalize ae N=n at *
  clear G D1 D2 hE hg hg0 hd sa sb sg' ha hb hN HR;go_enter func180,ntmps180
  go_wp2_with fail
  refine Calls.mono (N1.out _) ?_;rintro e w1 ⟨rfl,rfl⟩;go_wp2_with fail
  refine Calls.mono (N2.out _) ?_;rintro e w1 ⟨rfl,rfl⟩;go_wp2
  go_returns
  exact ⟨rfl,(Below.refl _ _).alloc (Nat.le_refl _) _⟩
 have hd1:=gy (ej hD);by_cases hg1:g=1
 ·have HR:=hid (show ae (N/g)=ae N/\(if D/g=1 then aD else ae (D/g))=ae D from ⟨by rw [hg1,Nat.div_one],by rw [hg1,Nat.div_one,if_neg hD]⟩);rw [HR.out.1,HR.out.2];rw [hg1,bH] at G;generalize ae N=n at *
  generalize ae D=d at *
  clear D1 D2 hE hg hg0 hd sa sb sg' ha hb hN HR hD hg1;go_enter func180,ntmps180
  go_wp2_with fail
  refine Calls.mono (N1.out _) ?_;rintro e w1 ⟨rfl,rfl⟩;go_wp2_with fail
  refine Calls.mono (N2.out _) ?_;rintro e w1 ⟨rfl,rfl⟩;go_wp2_with fail
  refine Calls.mono (G.out _) ?_;rintro e w1 ⟨rfl,hb1⟩;have hx1:=hx0.out.next hb1;obtain ⟨x0,x1,x2,x3,x4⟩:=hx1.1.facts;go_wp2
  have S:=hx1.ret ⟨neg,n,d⟩;dsimp only at S;refine aR S.1 (fun W' c0 c1 c2=>by simp [results,Tryz.results180,go_sem,c0,c1,c2]) rfl ⟨rfl,S.2⟩
 have hgs:=gy (ej hg1);obtain ⟨n',hn'⟩:∃n',n'=ae (N/g):=⟨_,rfl⟩;rw [←hn'] at D1 ⊢;by_cases hq:D/g=1
 ·rw [hq,bH] at D2;have HR:=hid (show (if D/g=1 then aD else ae (D/g))=({data:= #[]}:ByteArray) by rw [if_pos hq];rfl);rw [HR.out];generalize ae (N%g)=n2 at *
  generalize ae (D%g)=n3 at *
  generalize ae N=n at *
  generalize ae D=d at *
  generalize ae g=gs at *
  clear hE hg hg0 hd sa sb sg' ha hb hN HR hD hg1 hq hn';go_enter func180,ntmps180
  go_wp2_with fail
  refine Calls.mono (N1.out _) ?_;rintro e w1 ⟨rfl,rfl⟩;go_wp2_with fail
  refine Calls.mono (N2.out _) ?_;rintro e w1 ⟨rfl,rfl⟩;go_wp2_with fail
  refine Calls.mono (G.out _) ?_;rintro e w1 ⟨rfl,hb1⟩;go_wp2_with fail
  refine Calls.mono (D1.out _) ?_;rintro e w2 ⟨rfl,hb2⟩;go_wp2_with fail
  refine Calls.mono (D2.out _) ?_;rintro e w3 ⟨rfl,hb3⟩;have hx1:=((hx0.out.next hb1).next hb2).next hb3;obtain ⟨x0,x1,x2,x3,x4⟩:=hx1.1.facts;go_wp2
  have S:=hx1.ret ⟨neg,n',{data:= #[]}⟩;dsimp only at S;refine aR S.1 (fun W' c0 c1 c2=>by simp [results,Tryz.results180,go_sem,c0,c1,c2]) rfl ⟨rfl,S.2⟩
 have hqs:=gy (ej hq);have HR:=hid (show (if D/g=1 then aD else ae (D/g))=ae (D/g) by rw [if_neg hq]);rw [HR.out];generalize ae (N%g)=n2 at *
 generalize ae (D%g)=n3 at *
 generalize ae (D/g)=d' at *
 generalize ae N=n at *
 generalize ae D=d at *
 generalize ae g=gs at *
 clear hE hg hg0 hd sa sb sg' ha hb hN HR hD hg1 hq hn';go_enter func180,ntmps180
 go_wp2_with fail
 refine Calls.mono (N1.out _) ?_;rintro e w1 ⟨rfl,rfl⟩;go_wp2_with fail
 refine Calls.mono (N2.out _) ?_;rintro e w1 ⟨rfl,rfl⟩;go_wp2_with fail
 refine Calls.mono (G.out _) ?_;rintro e w1 ⟨rfl,hb1⟩;go_wp2_with fail
 refine Calls.mono (D1.out _) ?_;rintro e w2 ⟨rfl,hb2⟩;go_wp2_with fail
 refine Calls.mono (D2.out _) ?_;rintro e w3 ⟨rfl,hb3⟩;have hx1:=((hx0.out.next hb1).next hb2).next hb3;obtain ⟨x0,x1,x2,x3,x4⟩:=hx1.1.facts;go_wp2
 have S:=hx1.ret ⟨neg,n',d'⟩;dsimp only at S;refine aR S.1 (fun W' c0 c1 c2=>by simp [results,Tryz.results180,go_sem,c0,c1,c2]) rfl ⟨rfl,S.2⟩
theorem p5 (z:Int):mkRat z 1=(z:Rat):=Rat.mkRat_self (z:Rat)
theorem rP (n:Int) (w:World) (h0: -9223372036854775808<=n) (h1:n<=9223372036854775807):Calls prog 102 #[.int .i64 n] w fun e w'=>e= .returned (az (enc (n:Rat)))/\Below w.heap.size w w':=by
 have M:=hid (fun w=>jF n w h0 h1);have hs:(ae n.natAbs).size<=8:=by rw [aL];exact aA (by omega)
 have R:=hid (fun w=>bW (decide (n<0)) (ae n.natAbs) {data:= #[1]} w (by omega) (by show 1<=_;decide) (by decide));have e1:ac {data:= #[1]}=1:=by rw [←bH,ai]
 rw [ai,e1,vD,p5] at R;have hx0:=hid (Bx1.new w);generalize enc (n:Rat)=a at *
 generalize ae n.natAbs=s at *
 unfold az;clear e1 hs;go_enter func102,ntmps102
 go_wp2_with fail
 refine Calls.mono (M.out _) ?_;rintro e w1 ⟨rfl,hb1⟩;go_wp2_with fail
 refine Calls.mono (R.out _) ?_;rintro e w2 ⟨rfl,hb2⟩;unfold az;have hx1:=(hx0.out.next hb1).next hb2;obtain ⟨x0,x1,x2,x3,x4⟩:=hx1.1.facts;go_wp2
 refine aR (hx1.ret _).1 (fun W' c0 c1 c2=>by simp [results,Tryz.results102,go_sem,c0,c1,c2]) rfl ⟨rfl,(hx1.ret _).2⟩
theorem rQ (n:Int) (w:World) (h0: -9223372036854775808<=n) (h1:n<=9223372036854775807):Calls prog 51 #[.int .i64 n] w fun e w'=>e= .returned (az (enc (n:Rat)))/\Below w.heap.size w w':=by
 have S:=hid (fun w=>jC n w h0 h1);have F:=hid (fun w=>cC n.natAbs w (by omega));rw [tI];have hx0:=hid (Bx1.new w);generalize ae n.natAbs=s at *
 generalize ((n.natAbs:Nat):Int)=u at *
 unfold az aD;simp only;go_enter func51,ntmps51
 go_wp2_with fail
 refine Calls.mono (S.out _) ?_;rintro e w1 ⟨rfl,rfl⟩;go_wp2_with fail
 refine Calls.mono (F.out _) ?_;rintro e w2 ⟨rfl,hb2⟩;have hx1:=hx0.out.next hb2;obtain ⟨x0,x1,x2,x3,x4⟩:=hx1.1.facts;go_wp2
 have S:=hx1.ret ⟨decide (n<0),s,{data:= #[]}⟩;dsimp only at S;refine aR S.1 (fun W' c0 c1 c2=>by simp [results,Tryz.results51,go_sem,c0,c1,c2]) rfl ⟨rfl,S.2⟩
theorem rR (neg:Bool) (a b:ByteArray) (k:Nat) (w:World) (hk:k<=400000000000) (ha:a.size<=k) (hb:b.size<=k) (hd:0<ac b):
  Calls prog 211 #[.bool neg,.string a,.string b] w fun e w'=>e= .returned (.tuple #[az (enc (mkRat (sg neg (ac a)) (ac b))),.bool true])/\Below w.heap.size w w':=by
 have L1:=hid (fun w=>rD a w (by omega));have L2:=hid (fun w=>rD b w (by omega));have NA:=hid (NB.str ha);have NB':=hid (NB.str hb);generalize ac a=N at *
 generalize ac b=D at *
 have R:=hid (fun (w:World) (u v:Value)=>lz neg u v N D k w NA.out NB'.out (by omega) hd);generalize enc (mkRat (sg neg N) D)=q at *
 have hx0:=hid (Bx1.new w);unfold az;clear ha hb hk;have HD:=hid hd;clear hd;go_enter func211,ntmps211
 go_wp2_with fail
 refine Calls.mono (L2.out _) ?_;rintro e w1 ⟨v,rfl,hv,hb1⟩;obtain ⟨vb,voff,vm,vc,vx,rfl,hv2,hv3,hv4,hv5⟩:=hv.kind HD.out;have hvm:0<vm:=by omega
 clear hv2 hv3 hv5;go_wp2_with fail
 refine Calls.mono (L1.out _) ?_;rintro e w2 ⟨u,rfl,hu,hb2⟩;go_wp2_with fail
 refine Calls.mono (R.out _ _ _ hu (hv.below hb2)) ?_;rintro e w3 ⟨rfl,hb3⟩;unfold az;have hx1:=((hx0.out.next hb1).next hb2).next hb3;obtain ⟨x0,x1,x2,x3,x4⟩:=hx1.1.facts;go_wp2
 refine ks (hx1.ret q).1 (fun W' c0 c1 c2=>by simp [results,Tryz.results211,go_sem,c0,c1,c2]) rfl ⟨rfl,(hx1.ret _).2⟩
theorem lA (a b:Nat) (w:World) (ha:a<=9223372036854775807) (hb:b<=9223372036854775807) (hd:0<b):
  Calls prog 118 #[.int .i64 a,.int .i64 b] w fun e w'=>e= .returned (.tuple #[az (enc (mkRat (a:Int) b)),.bool true])/\Below w.heap.size w w':=by
 have S1:=hid (fun w=>jC a w (by omega) (by omega));have S2:=hid (fun w=>jC b w (by omega) (by omega));have F1:=hid (fun w=>cC a w (by omega));have F2:=hid (fun w=>cC b w (by omega));have s1:(ae a).size<=8:=by rw [aL];exact aA (by omega)
 have s2:(ae b).size<=8:=by rw [aL];exact aA (by omega)
 have M:=hid (fun w=>rR false (ae a) (ae b) 8 w (by decide) s1 s2 (by rw [ai];exact hd));simp only [ai] at M;rw [show sg false a=(a:Int) from rfl] at M;rw [Int.natAbs_natCast] at S1 S2;generalize enc (mkRat (a:Int) b)=q at *
 have hx0:=hid (Bx1.new w);generalize ae a=sa at *
 generalize ae b=sb at *
 unfold az;clear s1 s2;go_enter func118,ntmps118
 go_wp2_with fail
 refine Calls.mono (S1.out _) ?_;rintro e w1 ⟨rfl,rfl⟩;go_wp2_with fail
 refine Calls.mono (F1.out _) ?_;rintro e w1 ⟨rfl,hb1⟩;go_wp2_with fail
 refine Calls.mono (S2.out _) ?_;rintro e w2 ⟨rfl,rfl⟩;go_wp2_with fail
 refine Calls.mono (F2.out _) ?_;rintro e w2 ⟨rfl,hb2⟩;go_wp2_with fail
 refine Calls.mono (M.out _) ?_;rintro e w3 ⟨rfl,hb3⟩;unfold az;have hx1:=((hx0.out.next hb1).next hb2).next hb3;obtain ⟨x0,x1,x2,x3,x4⟩:=hx1.1.facts;go_wp2
 refine ks (hx1.ret q).1 (fun W' c0 c1 c2=>by simp [results,Tryz.results118,go_sem,c0,c1,c2]) rfl ⟨rfl,(hx1.ret _).2⟩
attribute [local go_sem ↓] Go.wp_at_zero Go.wp_at_succ
def rS (p q:Rat) (k X Y D:Nat):Prop:=NB k X/\NB k Y/\NB k D/\0<D/\(aG p=aG q->p+q=mkRat (sg (aG p) (X+Y)) D)/\
 (aG p≠aG q->X<Y->p+q=mkRat (sg (aG q) (Y-X)) D)/\(aG p≠aG q->Y<=X->p+q=mkRat (sg (aG p) (X-Y)) D)
theorem rT {p q:Rat} {m n:Nat} (hp:qB m p) (hq:qB n q):rS p q (m+n) (p.num.natAbs*q.den) (q.num.natAbs*p.den) (p.den*q.den):=
 ⟨NB.mul hp.1 hq.2,by rw [Nat.add_comm];exact NB.mul hq.1 hp.2,NB.mul hp.2 hq.2,Nat.mul_pos p.den_pos q.den_pos,fun h=>pY h,fun h=>tD h,fun h=>tE h⟩
theorem rU {p q:Rat} {m n:Nat} (hp:qB m p) (hq:qB n q) (h:p.den=q.den):rS p q (m+n) p.num.natAbs q.num.natAbs p.den:=
 ⟨NB.mono hp.1 (by omega),NB.mono hq.1 (by omega),NB.mono hp.2 (by omega),p.den_pos,fun e=>nJ h e,fun e=>rq h e,fun e=>rt h e⟩
theorem NB.size {k n:Nat} (h:NB k n):(ae n).size<=k:=by rw [aL];exact aA h
theorem Bx3.drewN {w w1:World} {r1 r2:GRat} (h:Bx3 w w1 r1 r2) (n:Nat):Bx3 w (w1.drewN n) r1 r2:=⟨h.1,h.2.1,h.2.2.1,h.2.2.2.drewN n⟩
theorem mQ (p q:Rat) (m n:Nat) (w:World) (hp:qB m p) (hq:qB n q) (hm:m<=100000000000) (hn:n<=100000000000):
  Calls prog 172 #[az (enc p),az (enc q)] w fun e w'=>e= .returned (az (enc (p+q)))/\Below w.heap.size w w':=by
 have DA:=hid (fun w=>dq p w);have DB:=hid (fun w=>dq q w);have an:(enc p).num=ae p.num.natAbs:=rfl;have bn:(enc q).num=ae q.num.natAbs:=rfl;have s1:(ae p.num.natAbs).size<=m:=NB.size hp.1;have s2:(ae q.num.natAbs).size<=n:=NB.size hq.1;have s3:(ae p.den).size<=m:=NB.size hp.2;have s4:(ae q.den).size<=n:=NB.size hq.2;have M1:=hid (fun w=>bj (enc p).num (ae q.den) w (by rw [an];omega) (by omega));have M2:=hid (fun w=>bj (enc q).num (ae p.den) w (by rw [bn];omega) (by omega));have M3:=hid (fun w=>bj (ae p.den) (ae q.den) w (by omega) (by omega));simp only [an,bn,ai] at M1 M2 M3;simp only [←an,←bn] at M1 M2 M3;have HNe:=hid (rT hp hq);have HEq:=hid (fun h=>rU hp hq h);have hde:p.den=q.den->(enc p).den=(enc q).den:=fun h=>by unfold enc;simp only [h]
 have hdn:p.den≠q.den->(enc p).den≠(enc q).den:=fun h e=>h (by have a1:=lu p;have a2:=lu q;unfold tC at a1 a2;rw [e] at a1;omega)
 have HDE:=hid hde;have HDN:=hid (fun h=>nM (hdn h));have AN:=hid an;have BN:=hid bn;have hx0:=hid (Bx3.new w (enc p) (enc q));have en1:(enc p).neg=aG p:=rfl;have en2:(enc q).neg=aG q:=rfl;have EN1:=hid en1;have EN2:=hid en2;obtain ⟨k,hk⟩:∃k,k=m+n:=⟨_,rfl⟩;have hkb:k<=200000000000:=by omega
 rw [←hk] at HNe;simp only [←hk] at HEq;obtain ⟨c,hc⟩:∃c,c=enc (p+q):=⟨_,rfl⟩;rw [←hc];have HC:=hid hc;generalize enc p=a at *
 generalize enc q=b at *
 unfold az at DA DB;unfold az;clear hp hq an bn s1 s2 s3 s4 hde hdn hc hk en1 en2 hm hn;go_enter func172,ntmps172
 go_upto_region 1 with fail
 go_cut [5,6,7] (fun s5 s6 s7 wx=>s5= .string a.num/\s6= .string b.num/\s7= .string {data:= #[1]}/\Bx3 w wx a b)
 case first=>
  go_quiet (fail)
  go_wp2
  go_meet
  case rel=>exact ⟨rfl,rfl,rfl,Bx3.drewN hx0.out _⟩
 case rest=>
 obtain ⟨rfl,rfl,rfl,hx⟩:=hcut;obtain ⟨z0,z1,z2,z3,z4⟩:=hx.1.facts;obtain ⟨y0,y1,y2,y3,y4⟩:=hx.2.1.facts;go_upto_region 2 with fail
 go_cut [20] (fun s20 wx=>s20= .bool (decide (p.den≠q.den))/\wc=wx)
 case first=>
  by_cases hd:p.den=q.den
  ·have e1:(a.den.toList==b.den.toList)=true:=by rw [HDE.out hd];simp
   go_wp2
   go_meet
   case rel=>exact ⟨congrArg Value.bool (by simp [hd]),rfl⟩
  have e1:=HDN.out hd;go_wp2
  go_meet
  case rel=>exact ⟨congrArg Value.bool (by simp [hd]),rfl⟩
 case rest=>
 obtain ⟨rfl,rfl⟩:=hcut;go_upto_if 20 with fail
 go_cut [5,6,7] (fun s5 s6 s7 wx=>∃X Y D,s5= .string (ae X)/\s6= .string (ae Y)/\s7= .string (ae D)/\Hid (rS p q k X Y D)/\Bx3 w wx a b)
 case first=>
  by_cases hd:p.den≠q.den
  rotate_left
  ·have HDD:=hid (Decidable.not_not.1 hd);go_wp2_with fail
   refine Calls.mono (DA.out _) ?_;rintro e w1 ⟨rfl,hb1⟩;go_wp2
   go_meet
   case rel=>exact ⟨p.num.natAbs,q.num.natAbs,p.den,by rw [AN.out],by rw [BN.out],rfl,HEq.out HDD.out,hx.next hb1⟩
  go_wp2_with fail
  go_region_held3 (fun w'=>w'.cell? ⟨w.heap.size,0,none⟩=some (.bool a.neg)/\w'.cell? ⟨w.heap.size,1,none⟩=some (.string a.num)/\w'.cell? ⟨w.heap.size,2,none⟩=some (.string a.den)/\w'.cell? ⟨w.heap.size+1,0,none⟩=some (.bool b.neg)/\w'.cell? ⟨w.heap.size+1,1,none⟩=some (.string b.num)/\w'.cell? ⟨w.heap.size+1,2,none⟩=some (.string b.den)) (go_keep)
   (first
    |(go_at_call_of 171 (Value.agg #[.bool a.neg,.string a.num,.string a.den]);refine Calls.mono (DA.out _) ?_;rintro e wn ⟨rfl,hbn⟩;(first|replace hx:=Bx3.next hx hbn|replace hx:=Bx3.next (Bx3.drew hx) hbn);clear z0 z1 z2 z3 z4 y0 y1 y2 y3 y4;obtain ⟨z0,z1,z2,z3,z4⟩:=hx.1.facts;obtain ⟨y0,y1,y2,y3,y4⟩:=hx.2.1.facts)
    |(go_at_call_of 171 (Value.agg #[.bool b.neg,.string b.num,.string b.den]);refine Calls.mono (DB.out _) ?_;rintro e wn ⟨rfl,hbn⟩;(first|replace hx:=Bx3.next hx hbn|replace hx:=Bx3.next (Bx3.drew hx) hbn);clear z0 z1 z2 z3 z4 y0 y1 y2 y3 y4;obtain ⟨z0,z1,z2,z3,z4⟩:=hx.1.facts;obtain ⟨y0,y1,y2,y3,y4⟩:=hx.2.1.facts)
    |(go_at_call_of 170 (Value.string a.num);refine Calls.mono (M1.out _) ?_;rintro e wn ⟨rfl,hbn⟩;(first|replace hx:=Bx3.next hx hbn|replace hx:=Bx3.next (Bx3.drew hx) hbn);clear z0 z1 z2 z3 z4 y0 y1 y2 y3 y4;obtain ⟨z0,z1,z2,z3,z4⟩:=hx.1.facts;obtain ⟨y0,y1,y2,y3,y4⟩:=hx.2.1.facts)
    |(go_at_call_of 170 (Value.string b.num);refine Calls.mono (M2.out _) ?_;rintro e wn ⟨rfl,hbn⟩;(first|replace hx:=Bx3.next hx hbn|replace hx:=Bx3.next (Bx3.drew hx) hbn);clear z0 z1 z2 z3 z4 y0 y1 y2 y3 y4;obtain ⟨z0,z1,z2,z3,z4⟩:=hx.1.facts;obtain ⟨y0,y1,y2,y3,y4⟩:=hx.2.1.facts))
  go_wp2_with fail
  go_region_held3 (fun w'=>w'.cell? ⟨w.heap.size,0,none⟩=some (.bool a.neg)/\w'.cell? ⟨w.heap.size,1,none⟩=some (.string a.num)/\w'.cell? ⟨w.heap.size,2,none⟩=some (.string a.den)/\w'.cell? ⟨w.heap.size+1,0,none⟩=some (.bool b.neg)/\w'.cell? ⟨w.heap.size+1,1,none⟩=some (.string b.num)/\w'.cell? ⟨w.heap.size+1,2,none⟩=some (.string b.den)) (go_keep)
   (first
    |(go_at_call_of 171 (Value.agg #[.bool a.neg,.string a.num,.string a.den]);refine Calls.mono (DA.out _) ?_;rintro e wn ⟨rfl,hbn⟩;(first|replace hx:=Bx3.next hx hbn|replace hx:=Bx3.next (Bx3.drew hx) hbn);clear z0 z1 z2 z3 z4 y0 y1 y2 y3 y4;obtain ⟨z0,z1,z2,z3,z4⟩:=hx.1.facts;obtain ⟨y0,y1,y2,y3,y4⟩:=hx.2.1.facts)
    |(go_at_call_of 171 (Value.agg #[.bool b.neg,.string b.num,.string b.den]);refine Calls.mono (DB.out _) ?_;rintro e wn ⟨rfl,hbn⟩;(first|replace hx:=Bx3.next hx hbn|replace hx:=Bx3.next (Bx3.drew hx) hbn);clear z0 z1 z2 z3 z4 y0 y1 y2 y3 y4;obtain ⟨z0,z1,z2,z3,z4⟩:=hx.1.facts;obtain ⟨y0,y1,y2,y3,y4⟩:=hx.2.1.facts)
    |(go_at_call_of 170 (Value.string (ae p.den));refine Calls.mono (M3.out _) ?_;rintro e wn ⟨rfl,hbn⟩;(first|replace hx:=Bx3.next hx hbn|replace hx:=Bx3.next (Bx3.drew hx) hbn);clear z0 z1 z2 z3 z4 y0 y1 y2 y3 y4;obtain ⟨z0,z1,z2,z3,z4⟩:=hx.1.facts;obtain ⟨y0,y1,y2,y3,y4⟩:=hx.2.1.facts))
  go_wp2
  go_meet
  case rel=>exact ⟨_,_,_,rfl,rfl,rfl,HNe,hx⟩
 case rest=>
  clear z0 z1 z2 z3 z4 y0 y1 y2 y3 y4 hx;obtain ⟨X,Y,D,rfl,rfl,rfl,HS,hx⟩:=hcut;obtain ⟨z0,z1,z2,z3,z4⟩:=hx.1.facts;obtain ⟨y0,y1,y2,y3,y4⟩:=hx.2.1.facts;obtain ⟨nx,ny,nd,hD0,f1,f2,f3⟩:=HS.out;have sx:=nx.size;have sy:=ny.size;have sd:=nd.size;by_cases hs:aG p=aG q
  ·have e:(a.neg==b.neg)=true:=by rw [EN1.out,EN2.out,hs];simp
   have hE:=f1 hs;have hxy:(ae (X+Y)).size<=400000000000:=Nat.le_trans (nx.add ny).size (by omega);have A1:=hid (fun w=>oR (ae X) (ae Y) w (by omega) (by omega));have R1:=hid (fun w=>bW (aG p) (ae (X+Y)) (ae D) w hxy (by omega) (by rw [ai];exact hD0));simp only [ai] at A1 R1;rw [←hE,←HC.out,←EN1.out] at R1;clear hs hE f1 f2 f3 nx ny nd sx sy sd hD0 hxy HS;go_wp2_with fail
   go_region_with (first
    |(go_at_call 270;refine Calls.mono (A1.out _) ?_;rintro e wn ⟨rfl,hbn⟩;replace hx:=Bx3.next (Bx3.drew hx) hbn;clear z0 z1 z2 z3 z4 y0 y1 y2 y3 y4;obtain ⟨z0,z1,z2,z3,z4⟩:=hx.1.facts)
    |(go_at_call 180;refine Calls.mono (R1.out _) ?_;rintro e wm ⟨rfl,hbm⟩;unfold az;replace hx:=Bx3.next hx hbm;obtain ⟨t0,t1,t2,t3,t4⟩:=hx.2.2.1.facts))
   all_goals (go_wp2;refine aR (hx.ret c).1 (fun W' c0 c1 c2=>by simp [results,Tryz.results172,go_sem,c0,c1,c2]) rfl ⟨rfl,(hx.ret c).2⟩)
  have e:(a.neg==b.neg)=false:=by rw [EN1.out,EN2.out];simp [hs]
  by_cases hl:X<Y
  ·have hE:=f2 hs hl;have A1:=hid (fun w=>ip (ae X) (ae Y) w (by omega) (by omega) (by rw [ai,ai];exact hl));have A2:=hid (fun w=>eP (ae Y) (ae X) w (by omega) (by omega) (by rw [ai,ai];omega));have hxy:(ae (Y-X)).size<=400000000000:=Nat.le_trans (ny.le (Nat.sub_le _ _)).size (by omega);have R1:=hid (fun w=>bW (aG q) (ae (Y-X)) (ae D) w hxy (by omega) (by rw [ai];exact hD0));simp only [ai] at A1 A2 R1;rw [←hE,←HC.out,←EN2.out] at R1;clear hs hE f1 f2 f3 nx ny nd sx sy sd hD0 hxy HS hl;go_wp2_with fail
   refine Calls.mono (A1.out _) ?_;rintro e8 w8 ⟨rfl,hb8⟩;replace hx:=Bx3.next hx hb8;go_wp2_with fail
   refine Calls.mono (A2.out _) ?_;rintro e9 w9 ⟨rfl,hb9⟩;replace hx:=Bx3.next hx hb9;clear z0 z1 z2 z3 z4 y0 y1 y2 y3 y4;obtain ⟨y0,y1,y2,y3,y4⟩:=hx.2.1.facts;go_wp2_with fail
   refine Calls.mono (R1.out _) ?_;rintro ea wa ⟨rfl,hba⟩;unfold az;replace hx:=Bx3.next hx hba;obtain ⟨t0,t1,t2,t3,t4⟩:=hx.2.2.1.facts;go_wp2
   refine aR (hx.ret c).1 (fun W' c0 c1 c2=>by simp [results,Tryz.results172,go_sem,c0,c1,c2]) rfl ⟨rfl,(hx.ret c).2⟩
  have hE:=f3 hs (Nat.le_of_not_lt hl);have A1:=hid (fun w=>eP (ae X) (ae Y) w (by omega) (by omega) (by rw [ai,ai];omega));have hxy:(ae (X-Y)).size<=400000000000:=Nat.le_trans (nx.le (Nat.sub_le _ _)).size (by omega);have R1:=hid (fun w=>bW (aG p) (ae (X-Y)) (ae D) w hxy (by omega) (by rw [ai];exact hD0));simp only [ai] at A1 R1;rw [←hE,←HC.out,←EN1.out] at R1;clear hs hE f1 f2 f3 nx ny nd sx sy sd hD0 hxy HS hl;go_wp2_with fail
  refine Calls.mono (A1.out _) ?_;rintro e8 w8 ⟨rfl,hb8⟩;replace hx:=Bx3.next hx hb8;clear z0 z1 z2 z3 z4 y0 y1 y2 y3 y4;obtain ⟨z0,z1,z2,z3,z4⟩:=hx.1.facts;go_wp2_with fail
  refine Calls.mono (R1.out _) ?_;rintro ea wa ⟨rfl,hba⟩;unfold az;replace hx:=Bx3.next hx hba;obtain ⟨t0,t1,t2,t3,t4⟩:=hx.2.2.1.facts;go_wp2
  refine aR (hx.ret c).1 (fun W' c0 c1 c2=>by simp [results,Tryz.results172,go_sem,c0,c1,c2]) rfl ⟨rfl,(hx.ret c).2⟩
attribute [local go_sem ↓] Go.wp_at_zero Go.wp_at_succ
def sB (m:Nat) (r:GRat):Prop:=r.num.size<=m/\r.den.size<=m
theorem sB.qB {m:Nat} {r:GRat} (h:sB m r) (hm:0<m):qB m (qOf r):=wN hm h.1 h.2
theorem rV {m:Nat} {q:Rat} (h:Go.Proofs.YtclkgcigacbmiaaGreatDoor.qB m q):sB m (enc q):=ro h
theorem sB.mono {m n:Nat} {r:GRat} (h:sB m r) (hm:m<=n):sB n r:=⟨Nat.le_trans h.1 hm,Nat.le_trans h.2 hm⟩
theorem rW (r1 r2:GRat) (m n:Nat) (w:World) (h1:sB m r1) (h2:sB n r2) (hm:m<=100000000000) (hn:n<=100000000000) (hm0:0<m) (hn0:0<n):
  Calls prog 93 #[az r1,az r2] w fun e w'=>e= .returned (az (enc (qOf r1+qOf r2)))/\Below w.heap.size w w':=by
 have C1:=hid (fun w=>bI r1 w (by have:=h1.1;omega) (by have:=h1.2;omega));have C2:=hid (fun w=>bI r2 w (by have:=h2.1;omega) (by have:=h2.2;omega));have A:=hid (fun w=>mQ (qOf r1) (qOf r2) m n w (h1.qB hm0) (h2.qB hn0) hm hn);have hx:=(Bx3.new w r1 r2).drew;obtain ⟨z0,z1,z2,z3,z4⟩:=hx.1.facts;clear z0 z1 z2 z3 z4;generalize enc (qOf r1+qOf r2)=c at *
 generalize enc (qOf r1)=a at *
 generalize enc (qOf r2)=b at *
 have HX:=hid hx;clear hx h1 h2 hm hn hm0 hn0;unfold az at C1 C2 A;unfold az;go_enter func93,ntmps93
 go_wp2_with fail
 go_region_with (first
  |(go_at_call_of 168 (Value.agg #[.bool r1.neg,.string r1.num,.string r1.den]);refine Calls.mono (C1.out _) ?_;rintro e w1 ⟨rfl,hb1⟩;have hx1:=Bx3.next HX.out hb1;obtain ⟨y0,y1,y2,y3,y4⟩:=hx1.2.1.facts)
  |(go_at_call_of 168 (Value.agg #[.bool r2.neg,.string r2.num,.string r2.den]);refine Calls.mono (C2.out _) ?_;rintro e w2 ⟨rfl,hb2⟩;have hx2:=Bx3.next hx1 hb2)
  |(go_at_call 172;refine Calls.mono (A.out _) ?_;rintro e w3 ⟨rfl,hb3⟩;have hx3:=Bx3.next hx2 hb3;obtain ⟨t0,t1,t2,t3,t4⟩:=hx3.2.2.1.facts))
 all_goals (go_wp2;refine aR (hx3.ret c).1 (fun W' c0 c1 c2=>by simp [results,Tryz.results93,go_sem,c0,c1,c2]) rfl ⟨rfl,(hx3.ret c).2⟩)
theorem jV (r1 r2:GRat) (m n:Nat) (w:World) (h1:sB m r1) (h2:sB n r2) (hm:m<=100000000000) (hn:n<=100000000000) (hm0:0<m) (hn0:0<n):
  Calls prog 94 #[az r1,az r2] w fun e w'=>e= .returned (az (enc (qOf r1-qOf r2)))/\Below w.heap.size w w':=by
 have C1:=hid (fun w=>bI r1 w (by have:=h1.1;omega) (by have:=h1.2;omega));have C2:=hid (fun w=>bI r2 w (by have:=h2.1;omega) (by have:=h2.2;omega));have N:=hid (fun w=>mP (enc (qOf r2)) w (fun h=>by have e:=(dS _).1 h;rw [e];rfl));rw [rE] at N;have A:=hid (fun w=>mQ (qOf r1) (-qOf r2) m n w (h1.qB hm0) (h2.qB hn0).neg hm hn);rw [←Rat.sub_eq_add_neg] at A;have HX:=hid (Bx3.new w r1 r2).drew;generalize enc (qOf r1-qOf r2)=c at *
 generalize enc (-qOf r2)=d at *
 generalize enc (qOf r1)=a at *
 generalize enc (qOf r2)=b at *
 clear h1 h2 hm hn hm0 hn0;unfold az at C1 C2 A N;unfold az;go_enter func94,ntmps94
 go_wp2_with fail
 go_region_with (first
  |(go_at_call_of 168 (Value.agg #[.bool r1.neg,.string r1.num,.string r1.den]);refine Calls.mono (C1.out _) ?_;rintro e w1 ⟨rfl,hb1⟩;have hx1:=Bx3.next HX.out hb1;obtain ⟨y0,y1,y2,y3,y4⟩:=hx1.2.1.facts)
  |(go_at_call_of 168 (Value.agg #[.bool r2.neg,.string r2.num,.string r2.den]);refine Calls.mono (C2.out _) ?_;rintro e w2 ⟨rfl,hb2⟩;have hx2:=Bx3.next hx1 hb2)
  |(go_at_call 173;refine Calls.mono (N.out _) ?_;rintro e w4 ⟨rfl,hb4⟩;replace hx2:=Bx3.next hx2 hb4)
  |(go_at_call 172;refine Calls.mono (A.out _) ?_;rintro e w3 ⟨rfl,hb3⟩;have hx3:=Bx3.next hx2 hb3;obtain ⟨t0,t1,t2,t3,t4⟩:=hx3.2.2.1.facts))
 all_goals (go_wp2;refine aR (hx3.ret c).1 (fun W' c0 c1 c2=>by simp [results,Tryz.results94,go_sem,c0,c1,c2]) rfl ⟨rfl,(hx3.ret c).2⟩)
attribute [local go_sem ↓] Go.wp_at_zero Go.wp_at_succ
abbrev lB (w:World) (b:Nat) (a:GRat):World:=((w.setCell ⟨b,0,none⟩ (.bool a.neg)).setCell ⟨b,1,none⟩ (.string a.num)).setCell ⟨b,2,none⟩ (.string a.den)
theorem Bx.put {w:World} {b:Nat} {r:GRat} (h:Bx w b r) (a:GRat):Bx (lB w b a) b a:=(Blk3.stored h _ _ _).2.2.2
theorem Bx.other {w:World} {b b':Nat} {r:GRat} (h:Bx w b r) (hne:b'≠b) (a:GRat):Bx (lB w b' a) b r:=((Blk3.other h hne _ _).other hne _ _).other hne _ _
theorem de {w w1:World} {b:Nat} (h:Below w.heap.size w w1) (hb:w.heap.size<=b) (a:GRat):Below w.heap.size w (lB w1 b a):=((h.setCell hb _).setCell hb _).setCell hb _
theorem Bx2.put2 {w w1:World} {r1 r2:GRat} (h:Bx2 w w1 r1 r2) (a b:GRat):Bx2 w (lB (lB w1 w.heap.size a) (w.heap.size+1) b) a b:=
 ⟨(h.1.put a).other (by omega) b,(h.2.1.other (by omega) a).put b,de (de h.2.2 (Nat.le_refl _) a) (by omega) b⟩
theorem Bx3.put2 {w w1:World} {r1 r2:GRat} (h:Bx3 w w1 r1 r2) (a b:GRat):Bx3 w (lB (lB w1 w.heap.size a) (w.heap.size+1) b) a b:=
 ⟨(h.1.put a).other (by omega) b,(h.2.1.other (by omega) a).put b,(h.2.2.1.other (by omega) a).other (by omega) b,de (de h.2.2.2 (Nat.le_refl _) a) (by omega) b⟩
theorem p6 (x y:Nat): -1<=aC x y/\aC x y<=1:=by unfold aC;split<;>(try split)<;>omega
theorem lC (r1 r2:GRat) (m n:Nat) (w:World) (h1:sB m r1) (h2:sB n r2) (hm:m<=100000000000) (hn:n<=100000000000) (hm0:0<m) (hn0:0<n):
  Calls prog 92 #[az r1,az r2] w fun e w'=>e= .returned (.int .i64 (eW (qOf r1) (qOf r2)))/\Below w.heap.size w w':=by
 have C1:=hid (fun w=>bI r1 w (by have:=h1.1;omega) (by have:=h1.2;omega));have C2:=hid (fun w=>bI r2 w (by have:=h2.1;omega) (by have:=h2.2;omega));have S1:=hid (fun w=>iy (enc (qOf r1)) w);have S2:=hid (fun w=>iy (enc (qOf r2)) w);rw [rF] at S1 S2;have DA:=hid (fun w=>dq (qOf r1) w);have DB:=hid (fun w=>dq (qOf r2) w);have hp:=h1.qB hm0;have hq:=h2.qB hn0;generalize qOf r1=p at *
 generalize qOf r2=q at *
 have an:(enc p).num=ae p.num.natAbs:=rfl;have bn:(enc q).num=ae q.num.natAbs:=rfl;have s1:(ae p.num.natAbs).size<=m:=NB.size hp.1;have s2:(ae q.num.natAbs).size<=n:=NB.size hq.1;have s3:(ae p.den).size<=m:=NB.size hp.2;have s4:(ae q.den).size<=n:=NB.size hq.2;have M1:=hid (fun w=>bj (enc p).num (ae q.den) w (by rw [an];omega) (by omega));have M2:=hid (fun w=>bj (enc q).num (ae p.den) w (by rw [bn];omega) (by omega));simp only [an,bn,ai] at M1 M2;simp only [←an,←bn] at M1 M2;obtain ⟨X,hX⟩:∃X,X=p.num.natAbs*q.den:=⟨_,rfl⟩;obtain ⟨Y,hY⟩:∃X,X=q.num.natAbs*p.den:=⟨_,rfl⟩;have nx:(ae X).size<=m+n:=by rw [hX];exact NB.size (NB.mul hp.1 hq.2)
 have ny:(ae Y).size<=n+m:=by rw [hY];exact NB.size (NB.mul hq.1 hp.2)
 have CO:=hid (fun w=>ir (ae X) (ae Y) w (by unfold maxLen;omega) (by unfold maxLen;omega));rw [ai,ai] at CO;have hpos:aG p=false->aG q=false->eW p q=aC X Y:=fun a b=>by rw [hX,hY];exact rz a b
 have hneg:aG p=true->aG q=true->eW p q= - aC X Y:=fun a b=>by rw [hX,hY];exact rA a b
 rw [←hX] at M1;rw [←hY] at M2;have hc:=p6 X Y;have HPOS:=hid hpos;have HNEG:=hid hneg;have HSG:=hid (fun h=>rB (p:=p) (q:=q) h);have HSE:=hid (fun h=>tG (p:=p) (q:=q) h);have HX:=hid (Bx2.new w r1 r2).drew;have EN1:Hid ((enc p).neg=aG p):=rfl;generalize aC X Y=c at *
 generalize enc p=a at *
 generalize enc q=b at *
 obtain ⟨sp,hsp⟩:∃s,s=g9 p:=⟨_,rfl⟩;obtain ⟨sq,hsq⟩:∃s,s=g9 q:=⟨_,rfl⟩;rw [←hsp] at S1 HSG HSE;rw [←hsq] at S2 HSG HSE;obtain ⟨k,hk⟩:∃k,k=eW p q:=⟨_,rfl⟩;rw [←hk] at HSG HPOS HNEG ⊢;clear hpos hneg hX hY an bn s1 s2 s3 s4 nx ny hp hq h1 h2 hm hn hm0 hn0 hsp hsq hk;unfold az at C1 C2 S1 S2 DA DB;unfold az;go_enter func92,ntmps92
 go_upto_region 1 with fail
 go_cut [8,9,10,11] (fun _ _ _ _ wx=>Bx2 w wx a b)
 case first=>
  go_region_with (first
   |(go_at_call_of 168 (Value.agg #[.bool r1.neg,.string r1.num,.string r1.den]);refine Calls.mono (C1.out _) ?_;rintro e w1 ⟨rfl,hb1⟩;have hx1:=Bx2.next HX.out hb1;obtain ⟨y0,y1,y2,y3,y4⟩:=hx1.2.1.facts)
   |(go_at_call_of 168 (Value.agg #[.bool r2.neg,.string r2.num,.string r2.den]);refine Calls.mono (C2.out _) ?_;rintro e w2 ⟨rfl,hb2⟩;have hx2:=Bx2.next hx1 hb2;clear y0 y1 y2 y3 y4;obtain ⟨t0,t1,t2,t3,t4⟩:=hx2.1.facts;obtain ⟨y0,y1,y2,y3,y4⟩:=hx2.2.1.facts))
  all_goals (go_wp2;go_meet;exact hx2.put2 a b)
 case rest=>
  have hx:=hcut;obtain ⟨z0,z1,z2,z3,z4⟩:=hx.1.facts;obtain ⟨y0,y1,y2,y3,y4⟩:=hx.2.1.facts;clear hcut HX C1 C2;go_upto_region 2 with fail
  go_cut [5,6] (fun s5 s6 wx=>s5= .int .i64 sp/\s6= .int .i64 sq/\Bx2 w wx a b)
  case first=>
   go_region_held3 (fun w'=>w'.cell? ⟨w.heap.size,0,none⟩=some (.bool a.neg)/\w'.cell? ⟨w.heap.size,1,none⟩=some (.string a.num)/\w'.cell? ⟨w.heap.size,2,none⟩=some (.string a.den)/\w'.cell? ⟨w.heap.size+1,0,none⟩=some (.bool b.neg)/\w'.cell? ⟨w.heap.size+1,1,none⟩=some (.string b.num)/\w'.cell? ⟨w.heap.size+1,2,none⟩=some (.string b.den)) (go_keep)
    (first
     |(go_at_call_of 167 (Value.agg #[.bool a.neg,.string a.num,.string a.den]);refine Calls.mono (S1.out _) ?_;rintro e wn ⟨rfl,hbn⟩;(first|replace hx:=Bx2.next hx hbn|replace hx:=Bx2.next (Bx2.drew hx) hbn);clear z0 z1 z2 z3 z4 y0 y1 y2 y3 y4;obtain ⟨z0,z1,z2,z3,z4⟩:=hx.1.facts;obtain ⟨y0,y1,y2,y3,y4⟩:=hx.2.1.facts)
     |(go_at_call_of 167 (Value.agg #[.bool b.neg,.string b.num,.string b.den]);refine Calls.mono (S2.out _) ?_;rintro e wn ⟨rfl,hbn⟩;(first|replace hx:=Bx2.next hx hbn|replace hx:=Bx2.next (Bx2.drew hx) hbn);clear z0 z1 z2 z3 z4 y0 y1 y2 y3 y4;obtain ⟨z0,z1,z2,z3,z4⟩:=hx.1.facts;obtain ⟨y0,y1,y2,y3,y4⟩:=hx.2.1.facts))
   go_wp2
   go_meet
   case rel=>exact ⟨rfl,rfl,hx⟩
  case rest=>
  clear hx z0 z1 z2 z3 z4 y0 y1 y2 y3 y4;obtain ⟨rfl,rfl,hx⟩:=hcut;obtain ⟨z0,z1,z2,z3,z4⟩:=hx.1.facts;obtain ⟨y0,y1,y2,y3,y4⟩:=hx.2.1.facts;have hbx:=hid hx.2.2;by_cases hs:sp=sq
  ·subst hs;have hxn:=hid hx;go_upto_region 7 with fail
   go_cut [7] (fun s7 wx=>s7= .int .i64 c/\Bx2 w wx a b)
   case first=>
    go_region_held3 (fun w'=>w'.cell? ⟨w.heap.size,0,none⟩=some (.bool a.neg)/\w'.cell? ⟨w.heap.size,1,none⟩=some (.string a.num)/\w'.cell? ⟨w.heap.size,2,none⟩=some (.string a.den)/\w'.cell? ⟨w.heap.size+1,0,none⟩=some (.bool b.neg)/\w'.cell? ⟨w.heap.size+1,1,none⟩=some (.string b.num)/\w'.cell? ⟨w.heap.size+1,2,none⟩=some (.string b.den)) (go_keep)
     (first
      |(go_at_call_of 171 (Value.agg #[.bool a.neg,.string a.num,.string a.den]);refine Calls.mono (DA.out _) ?_;rintro e wn ⟨rfl,hbn⟩;(first|replace hx:=Bx2.next hx hbn|replace hx:=Bx2.next (Bx2.drew hx) hbn);clear z0 z1 z2 z3 z4 y0 y1 y2 y3 y4;obtain ⟨z0,z1,z2,z3,z4⟩:=hx.1.facts;obtain ⟨y0,y1,y2,y3,y4⟩:=hx.2.1.facts)
      |(go_at_call_of 171 (Value.agg #[.bool b.neg,.string b.num,.string b.den]);refine Calls.mono (DB.out _) ?_;rintro e wn ⟨rfl,hbn⟩;(first|replace hx:=Bx2.next hx hbn|replace hx:=Bx2.next (Bx2.drew hx) hbn);clear z0 z1 z2 z3 z4 y0 y1 y2 y3 y4;obtain ⟨z0,z1,z2,z3,z4⟩:=hx.1.facts;obtain ⟨y0,y1,y2,y3,y4⟩:=hx.2.1.facts)
      |(go_at_call_of 170 (Value.string a.num);refine Calls.mono (M1.out _) ?_;rintro e wn ⟨rfl,hbn⟩;(first|replace hx:=Bx2.next hx hbn|replace hx:=Bx2.next (Bx2.drew hx) hbn);clear z0 z1 z2 z3 z4 y0 y1 y2 y3 y4;obtain ⟨z0,z1,z2,z3,z4⟩:=hx.1.facts;obtain ⟨y0,y1,y2,y3,y4⟩:=hx.2.1.facts)
      |(go_at_call_of 170 (Value.string b.num);refine Calls.mono (M2.out _) ?_;rintro e wn ⟨rfl,hbn⟩;(first|replace hx:=Bx2.next hx hbn|replace hx:=Bx2.next (Bx2.drew hx) hbn);clear z0 z1 z2 z3 z4 y0 y1 y2 y3 y4;obtain ⟨z0,z1,z2,z3,z4⟩:=hx.1.facts;obtain ⟨y0,y1,y2,y3,y4⟩:=hx.2.1.facts)
      |(go_at_call 169;refine Calls.mono (CO.out _) ?_;rintro e wn ⟨rfl,rfl⟩))
    go_wp2
    go_meet
    case rel=>exact ⟨rfl,hx⟩
   case rest=>
   clear hx z0 z1 z2 z3 z4 y0 y1 y2 y3 y4 hbx hxn;obtain ⟨rfl,hx⟩:=hcut;obtain ⟨z0,z1,z2,z3,z4⟩:=hx.1.facts;have hbx:=hid hx.2.2;rcases HSE.out rfl with ⟨g1,g2⟩|⟨g1,g2⟩
   ·have hk:=hid (HNEG.out g1 g2);have ha:a.neg=true:=by rw [EN1.out];exact g1
    rw [ha] at z0;clear ha g1 g2 hx;go_wp2
    go_ret
    exact ⟨aS (by rw [hk.out]),hbx.out⟩
   have hk:=hid (HPOS.out g1 g2);have ha:a.neg=false:=by rw [EN1.out];exact g1
   rw [ha] at z0;clear ha g1 g2 hx;go_wp2
   go_ret
   exact ⟨aS (by rw [hk.out]),hbx.out⟩
  have hk:=hid (HSG.out hs);have e1:(sp==sq)=false:=by simpa using hs
  have e2:(sp !=sq)=true:=by simp [bne,e1]
  clear hx z0 z1 z2 z3 z4 y0 y1 y2 y3 y4;by_cases hl:sp<sq
  ·have hk2:=hid (show k= -1 by rw [hk.out,if_pos hl]);go_wp2
   go_ret
   exact ⟨aS (by rw [hk2.out]),hbx.out⟩
  have hk2:=hid (show k=1 by rw [hk.out,if_neg hl]);go_wp2
  go_ret
  exact ⟨aS (by rw [hk2.out]),hbx.out⟩
attribute [local go_sem ↓] Go.wp_at_zero Go.wp_at_succ
theorem jW (r1 r2:GRat) (m n:Nat) (w:World) (h1:sB m r1) (h2:sB n r2) (hm:m<=100000000000) (hn:n<=100000000000) (hm0:0<m) (hn0:0<n):
  Calls prog 200 #[az r1,az r2] w fun e w'=>e= .returned (az (enc (qOf r1*qOf r2)))/\Below w.heap.size w w':=by
 have C1:=hid (fun w=>bI r1 w (by have:=h1.1;omega) (by have:=h1.2;omega));have C2:=hid (fun w=>bI r2 w (by have:=h2.1;omega) (by have:=h2.2;omega));have DA:=hid (fun w=>dq (qOf r1) w);have DB:=hid (fun w=>dq (qOf r2) w);have hp:=h1.qB hm0;have hq:=h2.qB hn0;generalize qOf r1=p at *
 generalize qOf r2=q at *
 have an:(enc p).num=ae p.num.natAbs:=rfl;have bn:(enc q).num=ae q.num.natAbs:=rfl;have s1:(ae p.num.natAbs).size<=m:=NB.size hp.1;have s2:(ae q.num.natAbs).size<=n:=NB.size hq.1;have s3:(ae p.den).size<=m:=NB.size hp.2;have s4:(ae q.den).size<=n:=NB.size hq.2;have M1:=hid (fun w=>bj (enc p).num (enc q).num w (by rw [an];omega) (by rw [bn];omega));have M2:=hid (fun w=>bj (ae p.den) (ae q.den) w (by omega) (by omega));simp only [an,bn,ai] at M1 M2;simp only [←an,←bn] at M1;have nx:(ae (p.num.natAbs*q.num.natAbs)).size<=m+n:=NB.size (NB.mul hp.1 hq.1);have ny:(ae (p.den*q.den)).size<=m+n:=NB.size (NB.mul hp.2 hq.2);have R:=hid (fun w=>bW (aG p !=aG q) (ae (p.num.natAbs*q.num.natAbs)) (ae (p.den*q.den)) w (by omega) (by omega) (by rw [ai];exact Nat.mul_pos p.den_pos q.den_pos));rw [ai,ai,←tF] at R;have HX:=hid (Bx3.new w r1 r2).drew;rw [show aG p=(enc p).neg from rfl,show aG q=(enc q).neg from rfl] at R;generalize enc (p*q)=c at *
 generalize enc p=a at *
 generalize enc q=b at *
 clear an bn s1 s2 s3 s4 nx ny hp hq h1 h2 hm hn hm0 hn0;unfold az at C1 C2 DA DB R;unfold az;go_enter func200,ntmps200
 go_upto_region 1 with fail
 go_cut [5,6,7,8] (fun _ _ _ _ wx=>Bx3 w wx a b)
 case first=>
  go_region_with (first
   |(go_at_call_of 168 (Value.agg #[.bool r1.neg,.string r1.num,.string r1.den]);refine Calls.mono (C1.out _) ?_;rintro e w1 ⟨rfl,hb1⟩;have hx1:=Bx3.next HX.out hb1;obtain ⟨y0,y1,y2,y3,y4⟩:=hx1.2.1.facts)
   |(go_at_call_of 168 (Value.agg #[.bool r2.neg,.string r2.num,.string r2.den]);refine Calls.mono (C2.out _) ?_;rintro e w2 ⟨rfl,hb2⟩;have hx2:=Bx3.next hx1 hb2;clear y0 y1 y2 y3 y4;obtain ⟨t0,t1,t2,t3,t4⟩:=hx2.1.facts;obtain ⟨y0,y1,y2,y3,y4⟩:=hx2.2.1.facts))
  all_goals (go_wp2;go_meet;exact hx2.put2 a b)
 case rest=>
  have hx:=hcut;obtain ⟨z0,z1,z2,z3,z4⟩:=hx.1.facts;obtain ⟨y0,y1,y2,y3,y4⟩:=hx.2.1.facts;clear hcut HX C1 C2;have hne0:w.heap.size≠w.heap.size+1+1:=by omega
  have hne1:¬(w.heap.size+1+1=w.heap.size):=by omega
  go_wp2_with fail
  go_region_held3 (fun w'=>w'.cell? ⟨w.heap.size,0,none⟩=some (.bool a.neg)/\w'.cell? ⟨w.heap.size,1,none⟩=some (.string a.num)/\w'.cell? ⟨w.heap.size,2,none⟩=some (.string a.den)/\w'.cell? ⟨w.heap.size+1,0,none⟩=some (.bool b.neg)/\w'.cell? ⟨w.heap.size+1,1,none⟩=some (.string b.num)/\w'.cell? ⟨w.heap.size+1,2,none⟩=some (.string b.den)) (go_keep)
   (first
    |(go_at_call_of 170 (Value.string a.num);refine Calls.mono (M1.out _) ?_;rintro e wn ⟨rfl,hbn⟩;(first|replace hx:=Bx3.next hx hbn|replace hx:=Bx3.next (Bx3.drew hx) hbn);clear z0 z1 z2 z3 z4 y0 y1 y2 y3 y4;obtain ⟨z0,z1,z2,z3,z4⟩:=hx.1.facts;obtain ⟨y0,y1,y2,y3,y4⟩:=hx.2.1.facts)
    |(go_at_call_of 171 (Value.agg #[.bool a.neg,.string a.num,.string a.den]);refine Calls.mono (DA.out _) ?_;rintro e wn ⟨rfl,hbn⟩;(first|replace hx:=Bx3.next hx hbn|replace hx:=Bx3.next (Bx3.drew hx) hbn);clear z0 z1 z2 z3 z4 y0 y1 y2 y3 y4;obtain ⟨z0,z1,z2,z3,z4⟩:=hx.1.facts;obtain ⟨y0,y1,y2,y3,y4⟩:=hx.2.1.facts)
    |(go_at_call_of 171 (Value.agg #[.bool b.neg,.string b.num,.string b.den]);refine Calls.mono (DB.out _) ?_;rintro e wn ⟨rfl,hbn⟩;(first|replace hx:=Bx3.next hx hbn|replace hx:=Bx3.next (Bx3.drew hx) hbn);clear z0 z1 z2 z3 z4 y0 y1 y2 y3 y4;obtain ⟨z0,z1,z2,z3,z4⟩:=hx.1.facts;obtain ⟨y0,y1,y2,y3,y4⟩:=hx.2.1.facts)
    |(go_at_call_of 170 (Value.string (ae p.den));refine Calls.mono (M2.out _) ?_;rintro e wn ⟨rfl,hbn⟩;(first|replace hx:=Bx3.next hx hbn|replace hx:=Bx3.next (Bx3.drew hx) hbn);clear z0 z1 z2 z3 z4 y0 y1 y2 y3 y4;obtain ⟨z0,z1,z2,z3,z4⟩:=hx.1.facts;obtain ⟨y0,y1,y2,y3,y4⟩:=hx.2.1.facts)
    |(go_at_call 180;refine Calls.mono (R.out _) ?_;rintro e wn ⟨rfl,hbn⟩;(first|replace hx:=Bx3.next hx hbn|replace hx:=Bx3.next (Bx3.drew hx) hbn);clear z0 z1 z2 z3 z4 y0 y1 y2 y3 y4;obtain ⟨z0,z1,z2,z3,z4⟩:=hx.1.facts;obtain ⟨y0,y1,y2,y3,y4⟩:=hx.2.1.facts;obtain ⟨t0,t1,t2,t3,t4⟩:=hx.2.2.1.facts))
  all_goals (go_wp2;refine aR (hx.ret c).1 (fun W' c0 c1 c2=>by simp [results,Tryz.results200,go_sem,c0,c1,c2]) rfl ⟨rfl,(hx.ret c).2⟩)
end Go.Proofs.YtclkgcigacbmiaaGreatDoor
