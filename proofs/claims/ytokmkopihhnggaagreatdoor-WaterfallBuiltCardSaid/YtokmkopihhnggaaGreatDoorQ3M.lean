/- Refunds, rates and what is kept, over rational numbers: plain. -/
import Derived.Test.YtokmkopihhnggaaGreatDoorNat16M
import Derived.Test.YtokmkopihhnggaaGreatDoorPlusM
import Derived.Deep.QuietTactic
import Derived.BigQuiet
import Derived.Test.YtokmkopihhnggaaGreatDoorNat11M
import Derived.Test.YtokmkopihhnggaaGreatDoorJfM
import Derived.Deep.RegionHeld3
import Derived.Deep.DeepCutAuto
set_option linter.unusedVariables false
set_option maxHeartbeats 2000000
set_option maxRecDepth 100000
set_option linter.unusedSimpArgs false
section
/- Refunds, rates and what is kept, over rational numbers: plain. -/
namespace Go.Proofs.YtokmkopihhnggaaGreatDoor
def ye (q:Rat):Rat:=if q<0 then 0 else q
def bT (a b:Rat):Rat:=if b<a then b else a
end Go.Proofs.YtokmkopihhnggaaGreatDoor
end
section
/- Refunds grow with the rates; amounts of the laws: plain. -/
namespace Go.Proofs.YtokmkopihhnggaaGreatDoor
def eA (x:Nat):Rat:=if x%5=0 then mkRat ((x/5%23:Nat):Int) (1+x/115%6) else if x%5=1 then (((10*(x/5%4):Nat):Int):Rat) else (((x/5%13:Nat):Int):Rat)
theorem yh (x:Nat):0<=eA x:=by
 unfold eA;split
 ·rw [Rat.mkRat_eq_div];rw [Rat.div_def];apply Rat.mul_nonneg
  ·exact Rat.intCast_nonneg.2 (by omega)
  apply Rat.le_of_lt;rw [Rat.inv_pos];exact Rat.natCast_pos.2 (by omega)
 split
 ·exact Rat.intCast_nonneg.2 (by omega)
 exact Rat.intCast_nonneg.2 (by omega)
theorem uf (x:Nat):qB 1 (eA x):=by
 unfold eA;split
 ·exact mG (by simp;omega) (by omega) (by decide)
 split
 ·exact ⟨by rw [Rat.num_intCast];simp;omega,by rw [Rat.den_intCast];decide⟩
 exact ⟨by rw [Rat.num_intCast];simp;omega,by rw [Rat.den_intCast];decide⟩
end Go.Proofs.YtokmkopihhnggaaGreatDoor
end
namespace Go.Proofs.YtokmkopihhnggaaGreatDoor
open Go.RowKit Go.Proofs.Tryz
attribute [local go_sem ↓] Go.wp_at_zero Go.wp_at_succ
theorem pG (q:Rat):oW (enc q)=enc (-q):=FA q
theorem mI (q:Rat):kc (enc q)=cr q:=CV q
def oX (a b:Rat):Rat:=if a<b then b else a
theorem fF (p q:Rat):dQ p q<0↔p<q:=by unfold dQ;grind
theorem pH (p q:Rat) (m n:Nat) (w:World) (hp:qB m p) (hq:qB n q) (hm:m<=100000000000) (hn:n<=100000000000):
  Calls prog 224 #[aE (enc p),aE (enc q)] w fun e w'=>e= .returned (aE (enc (p-q)))/\Below w.heap.size w w':=by
 have hx0:=(Bx3.new w (enc p) (enc q)).drew;have hk:=hid (fun W (hb:Below _ _ W)=>hx0.next hb);have O:=hid (fun w=>lL (enc q) w);rw [pG] at O;have P:=hid (fun w=>sA p (-q) m n w hp hq.neg hm hn);rw [←Rat.sub_eq_add_neg] at P;generalize enc p=a at *
 generalize enc q=b at *
 generalize enc (-q)=c at *
 generalize enc (p-q)=d at *
 unfold aE;clear hp hq hx0;go_enter func224,ntmps224
 go_wp2_with fail
 go_region_with (first
  |(go_at_call 98;refine Calls.mono (O.out _) ?_;rintro e w1 ⟨rfl,hb1⟩;have hx1:=hk.out _ hb1;obtain ⟨x0,x1,x2,x3,x4⟩:=hx1.1.facts)
  |(go_at_call 150;refine Calls.mono (P.out _) ?_;rintro e w2 ⟨rfl,hb2⟩;unfold aE;have hx2:=hx1.next hb2;obtain ⟨t0,t1,t2,t3,t4⟩:=hx2.2.2.1.facts))
 all_goals (go_wp2;refine bo (hx2.ret _).1 (fun W' c0 c1 c2=>by simp [results,Tryz.results224,go_sem,c0,c1,c2]) rfl ⟨rfl,(hx2.ret _).2⟩)
theorem sC (p q:Rat) (m n:Nat) (w:World) (hp:qB m p) (hq:qB n q) (hm:m<=100000000000) (hn:n<=100000000000):
  Calls prog 221 #[aE (enc p),aE (enc q)] w fun e w'=>e= .returned (.bool (decide (p<q)))/\Below w.heap.size w w':=by
 have hx0:=hid (Bx2.new w (enc p) (enc q));have M:=hid (fun w=>pH p q m n w hp hq hm hn);have G:=hid (fun w=>pB (enc (p-q)) w);rw [mI,CZ] at G;have hd:decide (dQ p q<0)=decide (p<q):=decide_eq_decide.2 (fF p q);generalize enc p=a at *
 generalize enc q=b at *
 generalize enc (p-q)=d at *
 generalize dQ p q=c at *
 have HD:=hid hd;unfold aE;clear hp hq hd;go_enter func221,ntmps221
 go_wp2_with fail
 refine Calls.mono (M.out _) ?_;rintro e w1 ⟨rfl,hb1⟩;go_wp2_with fail
 refine Calls.mono (G.out _) ?_;rintro e w2 ⟨rfl,hb2⟩;go_wp2
 go_ret
 exact ⟨CG HD.out,((hx0.out.next hb1).next hb2).2.2⟩
theorem vF (p q:Rat) (m n:Nat) (w:World) (hp:qB m p) (hq:qB n q) (hm:m<=100000000000) (hn:n<=100000000000):
  Calls prog 220 #[aE (enc p),aE (enc q)] w fun e w'=>e= .returned (aE (enc (bT p q)))/\Below w.heap.size w w':=by
 have hx0:=hid (Bx3.new w (enc p) (enc q));have L:=hid (fun w=>sC q p n m w hq hp hn hm);by_cases h:q<p
 ·rw [show bT p q=q from if_pos h];have hd:decide (q<p)=true:=by simp [h]
  rw [hd] at L;generalize enc p=a at *
  generalize enc q=b at *
  unfold aE;clear hp hq hd h;go_enter func220,ntmps220
  go_wp2_with fail
  refine Calls.mono (L.out _) ?_;rintro e w1 ⟨rfl,hb1⟩;have hx1:=hx0.out.next hb1;obtain ⟨x0,x1,x2,x3,x4⟩:=hx1.2.1.facts;obtain ⟨t0,t1,t2,t3,t4⟩:=hx1.2.2.1.facts;go_wp2
  refine bo (hx1.ret _).1 (fun W' c0 c1 c2=>by simp [results,Tryz.results220,go_sem,c0,c1,c2]) rfl ⟨rfl,(hx1.ret _).2⟩
 rw [show bT p q=p from if_neg h];have hd:decide (q<p)=false:=by simp [h]
 rw [hd] at L;generalize enc p=a at *
 generalize enc q=b at *
 unfold aE;clear hp hq hd h;go_enter func220,ntmps220
 go_wp2_with fail
 refine Calls.mono (L.out _) ?_;rintro e w1 ⟨rfl,hb1⟩;have hx1:=hx0.out.next hb1;obtain ⟨x0,x1,x2,x3,x4⟩:=hx1.1.facts;obtain ⟨t0,t1,t2,t3,t4⟩:=hx1.2.2.1.facts;go_wp2
 refine bo (hx1.ret _).1 (fun W' c0 c1 c2=>by simp [results,Tryz.results220,go_sem,c0,c1,c2]) rfl ⟨rfl,(hx1.ret _).2⟩
theorem ct:aj 1={data:= #[1]}:=by
 unfold aj;rw [fE (by decide)];simp [dd]
theorem pI {s t:ByteArray} (h:s≠t):(s.toList==t.toList)=false:=by
 rw [beq_eq_false_iff_ne];intro e;rw [ByteArray.toList_eq,ByteArray.toList_eq] at e;exact h (ByteArray.ext (Array.ext' e))
theorem gP {s:ByteArray} (h:s≠{data:= #[1]}):(s.toList==[1])=false:=by
 rw [beq_eq_false_iff_ne];intro e;rw [ByteArray.toList_eq] at e;exact h (ByteArray.ext (Array.ext' e))
theorem vG {r:GRat} (c1:aj (ah r.num)≠r.num):dy r=false:=by simp [dy,c1]
theorem vH {r:GRat} (c2:aj (ah r.den)≠r.den):dy r=false:=by simp [dy,c2]
theorem pJ {r:GRat} (c1:aj (ah r.num)=r.num) (c2:aj (ah r.den)=r.den) (h:r.num.size=0):dy r=(!r.neg&&decide (r.den.size=0)):=by simp [dy,c1,c2,h]
theorem pK {r:GRat} (c1:aj (ah r.num)=r.num) (c2:aj (ah r.den)=r.den) (h:¬r.num.size=0):dy r=(decide (r.den.size=0)||(decide (ah r.den≠1)&&decide (Nat.gcd (ah r.num) (ah r.den)=1))):=by simp [dy,c1,c2,h]
theorem Da (r:GRat) (w:World) (h1:r.num.size<=500000000000) (c1:aj (ah r.num)≠r.num):
  Calls prog 126 #[aE r] w fun e w'=>e= .returned (.bool false)/\Below w.heap.size w w':=by
 have N1:=hid (fun w=>bW r.num w (by unfold maxLen;omega));obtain ⟨neg,num,den⟩:=r;simp only at *
 generalize aj (ah num)=s at *
 have e1:=pI c1;unfold aE;simp only;clear c1;go_enter func126,ntmps126
 go_wp2
 go_quiet ((go_at_call 134;exact Calls.quiet_of_same ((N1.out _).mono fun e w' h=>⟨h.1,h.2.symm⟩)))
 go_wp2
 go_ret
 exact ⟨rfl,Below.drewN ((Below.refl _ _).alloc (Nat.le_refl _) _) _⟩
theorem Db (r:GRat) (w:World) (h1:r.num.size<=500000000000) (h2:r.den.size<=500000000000) (c1:aj (ah r.num)=r.num) (c2:aj (ah r.den)≠r.den):
  Calls prog 126 #[aE r] w fun e w'=>e= .returned (.bool false)/\Below w.heap.size w w':=by
 have N1:=hid (fun w=>bW r.num w (by unfold maxLen;omega));have N2:=hid (fun w=>bW r.den w (by unfold maxLen;omega));rw [c1] at N1;obtain ⟨neg,num,den⟩:=r;simp only at *
 generalize aj (ah den)=s at *
 have e1:=pI c2;unfold aE;simp only;clear c1 c2;go_enter func126,ntmps126
 go_wp2
 go_quiet ((first
  |(go_at_call_of 134 (Value.string num);exact Calls.quiet_of_same ((N1.out _).mono fun e w' h=>⟨h.1,h.2.symm⟩))
  |(go_at_call_of 134 (Value.string den);exact Calls.quiet_of_same ((N2.out _).mono fun e w' h=>⟨h.1,h.2.symm⟩))))
 go_wp2
 go_ret
 exact ⟨rfl,Below.drewN ((Below.refl _ _).alloc (Nat.le_refl _) _) _⟩
theorem Dc (r:GRat) (w:World) (h1:r.num.size<=500000000000) (h2:r.den.size<=500000000000) (c1:aj (ah r.num)=r.num) (c2:aj (ah r.den)=r.den) (h:r.num.size=0):
  Calls prog 126 #[aE r] w fun e w'=>e= .returned (.bool (!r.neg&&decide (r.den.size=0)))/\Below w.heap.size w w':=by
 have N1:=hid (fun w=>bW r.num w (by unfold maxLen;omega));have N2:=hid (fun w=>bW r.den w (by unfold maxLen;omega));rw [c1] at N1;rw [c2] at N2;obtain ⟨neg,num,den⟩:=r;simp only at *
 have hz:num={data:= #[]}:=ByteArray.ext (Array.eq_empty_of_size_eq_zero h);subst hz;unfold aE;simp only;clear c1 c2 h h1;cases neg
 ·by_cases hd:den.size=0
  ·have hz:den={data:= #[]}:=ByteArray.ext (Array.eq_empty_of_size_eq_zero hd);subst hz;clear hd h2;go_enter func126,ntmps126
   go_wp2
   go_quiet ((go_at_call 134;exact Calls.quiet_of_same ((N1.out _).mono fun e w' h=>⟨h.1,h.2.symm⟩)))
   go_wp2
   go_ret
   exact ⟨rfl,Below.drewN ((Below.refl _ _).alloc (Nat.le_refl _) _) _⟩
  have hne:=dN hd;have HR:=hid (show (!false&&decide (den.size=0))=false by simp [hd]);rw [HR.out];clear hd h2;go_enter func126,ntmps126
  go_wp2
  go_quiet ((first
   |(go_at_call_of 134 (Value.string {data:= #[]});exact Calls.quiet_of_same ((N1.out _).mono fun e w' h=>⟨h.1,h.2.symm⟩))
   |(go_at_call_of 134 (Value.string den);exact Calls.quiet_of_same ((N2.out _).mono fun e w' h=>⟨h.1,h.2.symm⟩))))
  go_wp2
  go_ret
  exact ⟨rfl,Below.drewN ((Below.refl _ _).alloc (Nat.le_refl _) _) _⟩
 have HR:=hid (show (!true&&decide (den.size=0))=false by simp);rw [HR.out];clear h2;go_enter func126,ntmps126
 go_wp2
 go_quiet ((first
  |(go_at_call_of 134 (Value.string {data:= #[]});exact Calls.quiet_of_same ((N1.out _).mono fun e w' h=>⟨h.1,h.2.symm⟩))
  |(go_at_call_of 134 (Value.string den);exact Calls.quiet_of_same ((N2.out _).mono fun e w' h=>⟨h.1,h.2.symm⟩))))
 go_wp2
 go_ret
 exact ⟨rfl,Below.drewN ((Below.refl _ _).alloc (Nat.le_refl _) _) _⟩
theorem jU:∀(l r:List UInt8),l.length=r.length->Lib.compareBytes l r=bB (bb l) (bb r)
 |[],[],_=>by simp [Lib.compareBytes,bB,bb]
 |[],_::_,h=>by simp at h
 |_::_,[],h=>by simp at h
 |a::l,b::r,h=>by
  have hl:l.length=r.length:=by simpa using h
  have ih:=jU l r hl;have h1:=gf l;have h2:=gf r;simp only [Lib.compareBytes];rw [ih,eY,eY,hl];rw [hl] at h1;have ha:(a<b)↔a.toNat<b.toNat:=UInt8.lt_iff_toNat_lt;have hb:(b<a)↔b.toNat<a.toNat:=UInt8.lt_iff_toNat_lt;generalize 256^r.length=P at *
  generalize bb l=x at *
  generalize bb r=y at *
  by_cases c1:a.toNat<b.toNat
  ·rw [if_pos (ha.2 c1)];have:=Nat.mul_le_mul_right P (show a.toNat+1<=b.toNat from c1);rw [Nat.add_mul] at this;unfold bB;rw [if_pos (by omega)]
  rw [if_neg (fun h=>c1 (ha.1 h))];by_cases c2:b.toNat<a.toNat
  ·rw [if_pos (hb.2 c2)];have:=Nat.mul_le_mul_right P (show b.toNat+1<=a.toNat from c2);rw [Nat.add_mul] at this;unfold bB;rw [if_neg (by omega),if_pos (by omega)]
  rw [if_neg (fun h=>c2 (hb.1 h))];have:a.toNat=b.toNat:=by omega
  rw [this];generalize b.toNat*P=q;unfold bB;simp only [Nat.add_lt_add_iff_left]
theorem pL {x y:Nat} (h:(aj x).size=(aj y).size):Lib.compareBytes (aj x).data.toList (aj y).data.toList=bB x y:=by
 rw [bX,bX] at h;have:=jU (bU x) (bU y) h;rw [ej,ej] at this;simpa [aj] using this
theorem iO {x y:Nat} (h:x<=y):(bU x).length<=(bU y).length:=bv (Nat.lt_of_le_of_lt h (j9 y))
theorem vI {x y:Nat} (h:(aj x).size≠(aj y).size):iZ (((aj x).size:Int)-((aj y).size:Int))=bB x y:=by
 rw [bX,bX] at *
 unfold iZ bB;by_cases c:x<y
 ·have:=iO (Nat.le_of_lt c);rw [if_pos c,if_pos (by omega)]
 have:=iO (Nat.le_of_not_lt c);rw [if_neg c,if_neg (by omega)];by_cases d:y<x
 ·rw [if_pos d];try rw [if_pos (by omega)]
 exfalso;have:x=y:=by omega
 subst this;exact h rfl
theorem dW (s:ByteArray):(aj (ah s)).size<=s.size:=by rw [bX];exact bv (dR s)
theorem vJ (a b:ByteArray) (w:World) (ha:a.size<=maxLen) (hb:b.size<=maxLen):
  Calls prog 84 #[.string a,.string b] w fun e w'=>e= .returned (.int .i64 (bB (ah a) (ah b)))/\w=w':=by
 have H1:=hid (bW a w ha);have H2:=hid (bW b w hb);have sa:=dW a;have sb:=dW b;have hmx:(maxLen:Nat)<=9223372036854775807:=by unfold maxLen;omega
 have hsa:(aj (ah a)).size<=9223372036854775807:=by omega
 have hsb:(aj (ah b)).size<=9223372036854775807:=by omega
 by_cases h:(aj (ah a)).size=(aj (ah b)).size
 ·have HC:=hid (Tryz.strings_Compare (aj (ah a)) (aj (ah b)) w);rw [pL h] at HC;generalize bB (ah a) (ah b)=c at *
  generalize aj (ah a)=x at *
  generalize aj (ah b)=y at *
  have hxy:¬((x.size:Int)≠(y.size:Int)):=by omega
  clear sa sb ha hb hmx;go_enter func84,ntmps84
  go_wp2_with fail
  refine Calls.mono H1.out ?_;rintro e w1 ⟨rfl,rfl⟩;go_wp2_with fail
  refine Calls.mono H2.out ?_;rintro e w1 ⟨rfl,rfl⟩;go_wp2_with fail
  refine Calls.mono HC.out ?_;rintro e w1 ⟨rfl,rfl⟩;go_wp2
  go_ret
  exact ⟨rfl,rfl⟩
 have HC:=hid (pr (((aj (ah a)).size:Int)-((aj (ah b)).size:Int)) w);rw [vI h] at HC;generalize bB (ah a) (ah b)=c at *
 generalize aj (ah a)=x at *
 generalize aj (ah b)=y at *
 have hxy:((x.size:Int)≠(y.size:Int)):=by omega
 clear sa sb ha hb hmx h;go_enter func84,ntmps84
 go_wp2_with fail
 refine Calls.mono H1.out ?_;rintro e w1 ⟨rfl,rfl⟩;go_wp2_with fail
 refine Calls.mono H2.out ?_;rintro e w1 ⟨rfl,rfl⟩;go_wp2_with fail
 refine Calls.mono HC.out ?_;rintro e w1 ⟨rfl,rfl⟩;go_wp2
 go_ret
 exact ⟨rfl,rfl⟩
theorem ie {n:Nat} (h:n≠1):aj n≠{data:= #[1]}:=by
 intro e;rw [←ct] at e;exact h (lU e)
theorem Dd (r:GRat) (w:World) (h1:r.num.size<=500000000000) (h2:r.den.size<=500000000000) (c1:aj (ah r.num)=r.num) (c2:aj (ah r.den)=r.den) (h:¬r.num.size=0):
  Calls prog 126 #[aE r] w fun e w'=>e= .returned (.bool (decide (r.den.size=0)||(decide (ah r.den≠1)&&decide (Nat.gcd (ah r.num) (ah r.den)=1))))/\Below w.heap.size w w':=by
 have N1:=hid (fun w=>bW r.num w (by unfold maxLen;omega));have N2:=hid (fun w=>bW r.den w (by unfold maxLen;omega));rw [c1] at N1;rw [c2] at N2;have G:=hid (fun w=>zK r.num r.den w h1 h2);obtain ⟨neg,num,den⟩:=r;simp only at *
 have hne:=dN h;unfold aE;simp only;by_cases hd:den.size=0
 ·have hz:den={data:= #[]}:=ByteArray.ext (Array.eq_empty_of_size_eq_zero hd);subst hz;clear hd h2 c1 c2 h h1 G;go_enter func126,ntmps126
  go_wp2
  go_quiet ((first
   |(go_at_call_of 134 (Value.string num);exact Calls.quiet_of_same ((N1.out _).mono fun e w' h=>⟨h.1,h.2.symm⟩))
   |(go_at_call_of 134 (Value.string {data:= #[]});exact Calls.quiet_of_same ((N2.out _).mono fun e w' h=>⟨h.1,h.2.symm⟩))))
  go_wp2
  go_ret
  exact ⟨rfl,Below.drewN ((Below.refl _ _).alloc (Nat.le_refl _) _) _⟩
 have hne2:=dN hd;by_cases ho:ah den=1
 ·rw [ho,ct] at c2;subst c2;have HR:=hid (show (decide (({data:= #[1]}:ByteArray).size=0)||(decide (ah {data:= #[1]}≠1)&&decide (Nat.gcd (ah num) (ah {data:= #[1]})=1)))=false by rw [ho];simp only [ne_eq,not_true,decide_false,Bool.false_and,Bool.or_false];exact decide_eq_false hd);rw [HR.out];clear hd h2 c1 h h1 G ho hne2;go_enter func126,ntmps126
  go_wp2
  go_quiet ((first
   |(go_at_call_of 134 (Value.string num);exact Calls.quiet_of_same ((N1.out _).mono fun e w' h=>⟨h.1,h.2.symm⟩))
   |(go_at_call_of 134 (Value.string {data:= #[1]});exact Calls.quiet_of_same ((N2.out _).mono fun e w' h=>⟨h.1,h.2.symm⟩))))
  go_wp2
  go_ret
  exact ⟨rfl,Below.drewN ((Below.refl _ _).alloc (Nat.le_refl _) _) _⟩
 have hn1:=gP (s:=den) (fun e=>ho (by rw [e,←ct];exact aH 1));by_cases hg:Nat.gcd (ah num) (ah den)=1
 ·rw [hg,ct] at G;have HR:=hid (show (decide (den.size=0)||(decide (ah den≠1)&&decide (Nat.gcd (ah num) (ah den)=1)))=true by simp [ho,hg]);rw [HR.out];clear hd h2 c1 c2 h h1 ho hg;go_enter func126,ntmps126
  go_wp2
  go_quiet ((first
   |(go_at_call_of 134 (Value.string num);exact Calls.quiet_of_same ((N1.out _).mono fun e w' h=>⟨h.1,h.2.symm⟩))
   |(go_at_call_of 134 (Value.string den);exact Calls.quiet_of_same ((N2.out _).mono fun e w' h=>⟨h.1,h.2.symm⟩))))
  go_wp2_with fail
  refine Calls.mono (G.out _) ?_;rintro e w1 ⟨rfl,hb1⟩;go_wp2
  go_ret
  exact ⟨rfl,Below.step (Below.drewN ((Below.refl _ _).alloc (Nat.le_refl _) _) _) hb1⟩
 have hn3:=gP (ie hg);have HR:=hid (show (decide (den.size=0)||(decide (ah den≠1)&&decide (Nat.gcd (ah num) (ah den)=1)))=false by simp [hd,hg]);rw [HR.out];generalize aj (Nat.gcd (ah num) (ah den))=gs at *
 clear hd h2 c1 c2 h h1 ho hg HR;go_enter func126,ntmps126
 go_wp2
 go_quiet ((first
  |(go_at_call_of 134 (Value.string num);exact Calls.quiet_of_same ((N1.out _).mono fun e w' h=>⟨h.1,h.2.symm⟩))
  |(go_at_call_of 134 (Value.string den);exact Calls.quiet_of_same ((N2.out _).mono fun e w' h=>⟨h.1,h.2.symm⟩))))
 go_wp2_with fail
 refine Calls.mono (G.out _) ?_;rintro e w1 ⟨rfl,hb1⟩;go_wp2
 go_ret
 exact ⟨rfl,Below.step (Below.drewN ((Below.refl _ _).alloc (Nat.le_refl _) _) _) hb1⟩
theorem yi (r:GRat) (w:World) (h1:r.num.size<=500000000000) (h2:r.den.size<=500000000000):
  Calls prog 126 #[aE r] w fun e w'=>e= .returned (.bool (dy r))/\Below w.heap.size w w':=by
 by_cases c1:aj (ah r.num)=r.num
 ·by_cases c2:aj (ah r.den)=r.den
  ·by_cases h:r.num.size=0
   ·rw [pJ c1 c2 h];exact Dc r w h1 h2 c1 c2 h
   rw [pK c1 c2 h];exact Dd r w h1 h2 c1 c2 h
  rw [vH c2];exact Db r w h1 h2 c1 c2
 rw [vG c1];exact Da r w h1 c1
theorem cu (r:GRat) (w:World) (h1:r.num.size<=500000000000) (h2:r.den.size<=500000000000):
  Calls prog 78 #[aE r] w fun e w'=>e= .returned (aE (enc (qOf r)))/\Below w.heap.size w w':=by
 have V:=hid (fun w=>yi r w h1 h2);have hx0:=hid (Bx2.new w r gZ);clear h1 h2;by_cases h:dy r=true
 ·rw [x9 h];rw [h] at V;unfold aE;clear h;go_enter func78,ntmps78
  go_wp2_with fail
  refine Calls.mono (V.out _) ?_;rintro e w1 ⟨rfl,hb1⟩;have hx1:=hx0.out.next hb1;obtain ⟨x0,x1,x2,x3,x4⟩:=hx1.1.facts;obtain ⟨t0,t1,t2,t3,t4⟩:=hx1.2.1.facts;go_wp2
  refine bo (hx1.ret _).1 (fun W' c0 c1 c2=>by simp [results,Tryz.results78,go_sem,c0,c1,c2]) rfl ⟨rfl,(hx1.ret _).2⟩
 have h':dy r=false:=by simpa using h
 rw [tZ h',←gG];rw [h'] at V;unfold aE;clear h h';go_enter func78,ntmps78
 go_wp2_with fail
 refine Calls.mono (V.out _) ?_;rintro e w1 ⟨rfl,hb1⟩;have hx1:=hx0.out.next hb1;obtain ⟨t0,t1,t2,t3,t4⟩:=hx1.2.1.facts;go_wp2
 refine bo (hx1.ret gZ).1 (fun W' c0 c1 c2=>by simp [results,Tryz.results78,go_sem,c0,c1,c2]) rfl ⟨rfl,(hx1.ret gZ).2⟩
theorem De (r:GRat) (w:World) (h1:r.num.size<=500000000000) (c1:aj (ah r.num)≠r.num):
  Calls prog 156 #[aE r] w fun e w'=>e= .returned (.bool false)/\Below w.heap.size w w':=by
 have N1:=hid (fun w=>b0 r.num w (by unfold maxLen;omega));obtain ⟨neg,num,den⟩:=r;simp only at *
 generalize aj (ah num)=s at *
 have e1:=pI c1;unfold aE;simp only;clear c1;go_enter func156,ntmps156
 go_wp2
 go_quiet ((go_at_call 192;exact Calls.quiet_of_same ((N1.out _).mono fun e w' h=>⟨h.1,h.2.symm⟩)))
 go_wp2
 go_ret
 exact ⟨rfl,Below.drewN ((Below.refl _ _).alloc (Nat.le_refl _) _) _⟩
theorem Df (r:GRat) (w:World) (h1:r.num.size<=500000000000) (h2:r.den.size<=500000000000) (c1:aj (ah r.num)=r.num) (c2:aj (ah r.den)≠r.den):
  Calls prog 156 #[aE r] w fun e w'=>e= .returned (.bool false)/\Below w.heap.size w w':=by
 have N1:=hid (fun w=>b0 r.num w (by unfold maxLen;omega));have N2:=hid (fun w=>b0 r.den w (by unfold maxLen;omega));rw [c1] at N1;obtain ⟨neg,num,den⟩:=r;simp only at *
 generalize aj (ah den)=s at *
 have e1:=pI c2;unfold aE;simp only;clear c1 c2;go_enter func156,ntmps156
 go_wp2
 go_quiet ((first
  |(go_at_call_of 192 (Value.string num);exact Calls.quiet_of_same ((N1.out _).mono fun e w' h=>⟨h.1,h.2.symm⟩))
  |(go_at_call_of 192 (Value.string den);exact Calls.quiet_of_same ((N2.out _).mono fun e w' h=>⟨h.1,h.2.symm⟩))))
 go_wp2
 go_ret
 exact ⟨rfl,Below.drewN ((Below.refl _ _).alloc (Nat.le_refl _) _) _⟩
theorem Dg (r:GRat) (w:World) (h1:r.num.size<=500000000000) (h2:r.den.size<=500000000000) (c1:aj (ah r.num)=r.num) (c2:aj (ah r.den)=r.den) (h:r.num.size=0) (ho:ah r.den≠1):
  Calls prog 156 #[aE r] w fun e w'=>e= .returned (.bool (!r.neg&&decide (r.den.size=0)))/\Below w.heap.size w w':=by
 have N1:=hid (fun w=>b0 r.num w (by unfold maxLen;omega));have N2:=hid (fun w=>b0 r.den w (by unfold maxLen;omega));rw [c1] at N1;rw [c2] at N2;obtain ⟨neg,num,den⟩:=r;simp only at *
 have hz:num={data:= #[]}:=ByteArray.ext (Array.eq_empty_of_size_eq_zero h);subst hz;unfold aE;simp only;clear c1 c2 h h1;cases neg
 ·by_cases hd:den.size=0
  ·have hz:den={data:= #[]}:=ByteArray.ext (Array.eq_empty_of_size_eq_zero hd);subst hz;clear hd h2 ho;have hn1:((({data:= #[]}:ByteArray).toList)==[1])=false:=by rw [ByteArray.toList_eq];rfl
   go_enter func156,ntmps156
   go_wp2
   go_quiet ((go_at_call 192;exact Calls.quiet_of_same ((N1.out _).mono fun e w' h=>⟨h.1,h.2.symm⟩)))
   go_wp2
   go_ret
   exact ⟨rfl,Below.drewN ((Below.refl _ _).alloc (Nat.le_refl _) _) _⟩
  have hne:=dN hd;have HR:=hid (show (!false&&decide (den.size=0))=false by simp [hd]);rw [HR.out];have hn1:=gP (s:=den) (fun e=>ho (by rw [e,←ct];exact aH 1));clear hd h2 ho;go_enter func156,ntmps156
  go_wp2
  go_quiet ((first
   |(go_at_call_of 192 (Value.string {data:= #[]});exact Calls.quiet_of_same ((N1.out _).mono fun e w' h=>⟨h.1,h.2.symm⟩))
   |(go_at_call_of 192 (Value.string den);exact Calls.quiet_of_same ((N2.out _).mono fun e w' h=>⟨h.1,h.2.symm⟩))))
  go_wp2
  go_ret
  exact ⟨rfl,Below.drewN ((Below.refl _ _).alloc (Nat.le_refl _) _) _⟩
 have HR:=hid (show (!true&&decide (den.size=0))=false by simp);rw [HR.out];have hn1:=gP (s:=den) (fun e=>ho (by rw [e,←ct];exact aH 1));clear h2 ho;go_enter func156,ntmps156
 go_wp2
 go_quiet ((first
  |(go_at_call_of 192 (Value.string {data:= #[]});exact Calls.quiet_of_same ((N1.out _).mono fun e w' h=>⟨h.1,h.2.symm⟩))
  |(go_at_call_of 192 (Value.string den);exact Calls.quiet_of_same ((N2.out _).mono fun e w' h=>⟨h.1,h.2.symm⟩))))
 go_wp2
 go_ret
 exact ⟨rfl,Below.drewN ((Below.refl _ _).alloc (Nat.le_refl _) _) _⟩
theorem Dh (r:GRat) (w:World) (h1:r.num.size<=500000000000) (h2:r.den.size<=500000000000) (c1:aj (ah r.num)=r.num) (c2:aj (ah r.den)=r.den) (ho:ah r.den=1):
  Calls prog 156 #[aE r] w fun e w'=>e= .returned (.bool false)/\Below w.heap.size w w':=by
 have N1:=hid (fun w=>b0 r.num w (by unfold maxLen;omega));have N2:=hid (fun w=>b0 r.den w (by unfold maxLen;omega));rw [c1] at N1;rw [c2] at N2;obtain ⟨neg,num,den⟩:=r;simp only at *
 rw [ho,ct] at c2;subst c2;unfold aE;simp only;clear c1 h1 h2 ho;go_enter func156,ntmps156
 go_wp2
 go_quiet ((first
  |(go_at_call_of 192 (Value.string num);exact Calls.quiet_of_same ((N1.out _).mono fun e w' h=>⟨h.1,h.2.symm⟩))
  |(go_at_call_of 192 (Value.string {data:= #[1]});exact Calls.quiet_of_same ((N2.out _).mono fun e w' h=>⟨h.1,h.2.symm⟩))))
 go_wp2
 go_ret
 exact ⟨rfl,Below.drewN ((Below.refl _ _).alloc (Nat.le_refl _) _) _⟩
theorem Di (r:GRat) (w:World) (h1:r.num.size<=500000000000) (h2:r.den.size<=500000000000) (c1:aj (ah r.num)=r.num) (c2:aj (ah r.den)=r.den) (h:¬r.num.size=0) (ho:ah r.den≠1):
  Calls prog 156 #[aE r] w fun e w'=>e= .returned (.bool (decide (r.den.size=0)||(decide (ah r.den≠1)&&decide (Nat.gcd (ah r.num) (ah r.den)=1))))/\Below w.heap.size w w':=by
 have N1:=hid (fun w=>b0 r.num w (by unfold maxLen;omega));have N2:=hid (fun w=>b0 r.den w (by unfold maxLen;omega));rw [c1] at N1;rw [c2] at N2;have G:=hid (fun w=>C6 r.num r.den w h1 h2);obtain ⟨neg,num,den⟩:=r;simp only at *
 have hne:=dN h;unfold aE;simp only;by_cases hd:den.size=0
 ·have hz:den={data:= #[]}:=ByteArray.ext (Array.eq_empty_of_size_eq_zero hd);subst hz;clear hd h2 c1 c2 h h1 G ho;have hn1:((({data:= #[]}:ByteArray).toList)==[1])=false:=by rw [ByteArray.toList_eq];rfl
  go_enter func156,ntmps156
  go_wp2
  go_quiet ((first
   |(go_at_call_of 192 (Value.string num);exact Calls.quiet_of_same ((N1.out _).mono fun e w' h=>⟨h.1,h.2.symm⟩))
   |(go_at_call_of 192 (Value.string {data:= #[]});exact Calls.quiet_of_same ((N2.out _).mono fun e w' h=>⟨h.1,h.2.symm⟩))))
  go_wp2
  go_ret
  exact ⟨rfl,Below.drewN ((Below.refl _ _).alloc (Nat.le_refl _) _) _⟩
 have hne2:=dN hd;have hn1:=gP (s:=den) (fun e=>ho (by rw [e,←ct];exact aH 1));by_cases hg:Nat.gcd (ah num) (ah den)=1
 ·rw [hg,ct] at G;have HR:=hid (show (decide (den.size=0)||(decide (ah den≠1)&&decide (Nat.gcd (ah num) (ah den)=1)))=true by simp [ho,hg]);rw [HR.out];clear hd h2 c1 c2 h h1 ho hg;go_enter func156,ntmps156
  go_wp2
  go_quiet ((first
   |(go_at_call_of 192 (Value.string num);exact Calls.quiet_of_same ((N1.out _).mono fun e w' h=>⟨h.1,h.2.symm⟩))
   |(go_at_call_of 192 (Value.string den);exact Calls.quiet_of_same ((N2.out _).mono fun e w' h=>⟨h.1,h.2.symm⟩))))
  go_wp2_with fail
  refine Calls.mono (G.out _) ?_;rintro e w1 ⟨rfl,hb1⟩;go_wp2
  go_ret
  exact ⟨rfl,Below.step (Below.drewN ((Below.refl _ _).alloc (Nat.le_refl _) _) _) hb1⟩
 have hn3:=gP (ie hg);have HR:=hid (show (decide (den.size=0)||(decide (ah den≠1)&&decide (Nat.gcd (ah num) (ah den)=1)))=false by simp [hd,hg]);rw [HR.out];generalize aj (Nat.gcd (ah num) (ah den))=gs at *
 clear hd h2 c1 c2 h h1 ho hg HR;go_enter func156,ntmps156
 go_wp2
 go_quiet ((first
  |(go_at_call_of 192 (Value.string num);exact Calls.quiet_of_same ((N1.out _).mono fun e w' h=>⟨h.1,h.2.symm⟩))
  |(go_at_call_of 192 (Value.string den);exact Calls.quiet_of_same ((N2.out _).mono fun e w' h=>⟨h.1,h.2.symm⟩))))
 go_wp2_with fail
 refine Calls.mono (G.out _) ?_;rintro e w1 ⟨rfl,hb1⟩;go_wp2
 go_ret
 exact ⟨rfl,Below.step (Below.drewN ((Below.refl _ _).alloc (Nat.le_refl _) _) _) hb1⟩
theorem yj (r:GRat) (w:World) (h1:r.num.size<=500000000000) (h2:r.den.size<=500000000000):
  Calls prog 156 #[aE r] w fun e w'=>e= .returned (.bool (dy r))/\Below w.heap.size w w':=by
 by_cases c1:aj (ah r.num)=r.num
 ·by_cases c2:aj (ah r.den)=r.den
  ·by_cases ho:ah r.den=1
   ·have hd:¬r.den.size=0:=fun h=>by rw [pD h] at ho;cases ho
    have hf:dy r=false:=by
     by_cases h:r.num.size=0
     ·rw [pJ c1 c2 h];simp [hd]
     rw [pK c1 c2 h];simp [hd,ho]
    rw [hf];exact Dh r w h1 h2 c1 c2 ho
   by_cases h:r.num.size=0
   ·rw [pJ c1 c2 h];exact Dg r w h1 h2 c1 c2 h ho
   rw [pK c1 c2 h];exact Di r w h1 h2 c1 c2 h ho
  rw [vH c2];exact Df r w h1 h2 c1 c2
 rw [vG c1];exact De r w h1 c1
theorem pM (r:GRat) (w:World) (h1:r.num.size<=500000000000) (h2:r.den.size<=500000000000):
  Calls prog 116 #[aE r] w fun e w'=>e= .returned (aE (enc (qOf r)))/\Below w.heap.size w w':=by
 have V:=hid (fun w=>yj r w h1 h2);have hx0:=hid (Bx2.new w r gZ);clear h1 h2;by_cases h:dy r=true
 ·rw [x9 h];rw [h] at V;unfold aE;clear h;go_enter func116,ntmps116
  go_wp2_with fail
  refine Calls.mono (V.out _) ?_;rintro e w1 ⟨rfl,hb1⟩;have hx1:=hx0.out.next hb1;obtain ⟨x0,x1,x2,x3,x4⟩:=hx1.1.facts;obtain ⟨t0,t1,t2,t3,t4⟩:=hx1.2.1.facts;go_wp2
  refine bo (hx1.ret _).1 (fun W' c0 c1 c2=>by simp [results,Tryz.results116,go_sem,c0,c1,c2]) rfl ⟨rfl,(hx1.ret _).2⟩
 have h':dy r=false:=by simpa using h
 rw [tZ h',←gG];rw [h'] at V;unfold aE;clear h h';go_enter func116,ntmps116
 go_wp2_with fail
 refine Calls.mono (V.out _) ?_;rintro e w1 ⟨rfl,hb1⟩;have hx1:=hx0.out.next hb1;obtain ⟨t0,t1,t2,t3,t4⟩:=hx1.2.1.facts;go_wp2
 refine bo (hx1.ret gZ).1 (fun W' c0 c1 c2=>by simp [results,Tryz.results116,go_sem,c0,c1,c2]) rfl ⟨rfl,(hx1.ret gZ).2⟩
theorem ig (q:Rat) (w:World):Calls prog 86 #[aE (enc q)] w fun e w'=>e= .returned (.string (aj q.den))/\Below w.heap.size w w':=by
 by_cases h:q.den=1
 ·have e1:(enc q).den={data:= #[]}:=by unfold enc;simp only [h,if_true];rfl
  rw [h,ct];unfold aE;rw [e1];generalize enc q=a at *
  clear h e1;go_enter func86,ntmps86
  go_wp2
  go_ret
  exact ⟨rfl,(Below.refl _ _).alloc (Nat.le_refl _) _⟩
 have e1:(enc q).den=aj q.den:=by unfold enc;simp only [h,if_false]
 have hne:=dN (gT q.den_nz);unfold aE;rw [e1];generalize aj q.den=d at *
 generalize enc q=a at *
 clear h e1;go_enter func86,ntmps86
 go_wp2
 go_ret
 exact ⟨rfl,(Below.refl _ _).alloc (Nat.le_refl _) _⟩
theorem kf (r:GRat) (w:World):Calls prog 83 #[aE r] w fun e w'=>e= .returned (.int .i64 (kc r))/\Below w.heap.size w w':=by
 unfold aE;by_cases h:r.num.size=0
 ·have hz:r.num={data:= #[]}:=ByteArray.ext (Array.eq_empty_of_size_eq_zero h);have hR:=hid (show kc r=0 by unfold kc;rw [if_pos h]);rw [hz];clear h hz;go_enter func83,ntmps83
  go_wp2
  go_ret
  exact ⟨b7 hR.out.symm,(Below.refl _ _).alloc (Nat.le_refl _) _⟩
 have hz:=dN h;cases hn:r.neg with
 |true=>
  have hR:=hid (show kc r= -1 by unfold kc;rw [if_neg h,if_pos hn]);clear h hn;go_enter func83,ntmps83
  go_wp2
  go_ret
  exact ⟨b7 hR.out.symm,(Below.refl _ _).alloc (Nat.le_refl _) _⟩
 |false=>
  have hR:=hid (show kc r=1 by unfold kc;rw [if_neg h,if_neg (by rw [hn];decide)]);clear h hn;go_enter func83,ntmps83
  go_wp2
  go_ret
  exact ⟨b7 hR.out.symm,(Below.refl _ _).alloc (Nat.le_refl _) _⟩
theorem vK (r:GRat) (w:World) (hv:r.num.size=0->r.neg=false):Calls prog 89 #[aE r] w fun e w'=>e= .returned (aE (oW r))/\Below w.heap.size w w':=by
 by_cases h:r.num.size=0
 ·have hz:r.num={data:= #[]}:=ByteArray.ext (Array.eq_empty_of_size_eq_zero h);have hn:=hv h;have hR:=hid (show oW r=r by unfold oW;rw [if_pos h]);rw [hR.out];unfold aE;rw [hz,hn];clear h hz hn hv;go_enter func89,ntmps89
  go_wp2
  go_returns
  exact ⟨rfl,((Below.refl _ _).alloc (Nat.le_refl _) _).alloc (by simp) _⟩
 have hz:=dN h;have hR:=hid (show oW r=⟨!r.neg,r.num,r.den⟩ by unfold oW;rw [if_neg h]);rw [hR.out];unfold aE;clear h hv;cases hn:r.neg
 ·clear hn;go_enter func89,ntmps89
  go_wp2
  go_returns
  exact ⟨rfl,((Below.refl _ _).alloc (Nat.le_refl _) _).alloc (by simp) _⟩
 clear hn;go_enter func89,ntmps89
 go_wp2
 go_returns
 exact ⟨rfl,((Below.refl _ _).alloc (Nat.le_refl _) _).alloc (by simp) _⟩
theorem pO (n:Int) (w:World) (h0: -9223372036854775808<=n) (h1:n<=9223372036854775807):Calls prog 104 #[.int .i64 n] w fun e w'=>e= .returned (.string (aj n.natAbs))/\Below w.heap.size w w':=by
 have F:=hid (fun w=>tT n.natAbs w (by omega));by_cases h:n<0
 ·have e1:IntKind.u64.wrap (-(IntKind.u64.wrap n))=(n.natAbs:Int):=by rw [IntKind.wrap_u64,IntKind.wrap_u64];omega
  go_enter func104,ntmps104
  go_wp2_with fail
  refine Calls.mono (F.out _) ?_;rintro e w1 ⟨rfl,hb1⟩;go_wp2
  go_ret
  exact ⟨rfl,hb1⟩
 have e1:n=(n.natAbs:Int):=by omega
 have F2:=hid (fun w=>F.out w);rw [←e1] at F2;clear F e1;go_enter func104,ntmps104
 go_wp2_with fail
 refine Calls.mono (F2.out _) ?_;rintro e w1 ⟨rfl,hb1⟩;go_wp2
 go_ret
 exact ⟨rfl,hb1⟩
theorem Dj:aj 0={data:= #[]}:=ia
theorem sD {P:Program} {fn:Func} {R:Ending->World->Prop} {a:Act} {W:World} {b T:Nat} {x y z:Value} {t:Bool} (h:Blk3 W b T x y z)
  (hres:∀W',W'.cell? ⟨b,0,none⟩=some x->W'.cell? ⟨b,1,none⟩=some y->W'.cell? ⟨b,2,none⟩=some z->(results fn a.tmps).run P W'= .ok (.tuple #[.agg #[x,y,z],.bool t]) W') (hd:a.defers=[]) (hR:R (.returned (.tuple #[.agg #[x,y,z],.bool t])) W):bodyPost P fn R .ret a W:=
 bodyPost_ret (hres W h.cells.1 h.cells.2.1 h.cells.2.2.1) hd hR
theorem eM (neg:Bool) (a b:ByteArray) (w:World) (ha:a.size<=400000000000) (hb:b.size<=400000000000) (hd:0<ah b):
  Calls prog 88 #[.bool neg,.string a,.string b] w fun e w'=>e= .returned (aE (enc (mkRat (sg neg (ah a)) (ah b))))/\Below w.heap.size w w':=by
 have N1:=hid (fun w=>bW a w (by unfold maxLen;omega));have N2:=hid (fun w=>bW b w (by unfold maxLen;omega));have sa:=dW a;have sb:=dW b;have hx0:=hid (Bx1.new w);generalize ah a=N at *
 generalize ah b=D at *
 by_cases hN:N=0
 ·subst hN;rw [zD,Rat.zero_mkRat,←gG];rw [Dj] at N1;unfold aE;clear ha hb sa sb hd;generalize aj D=d at *
  go_enter func88,ntmps88
  go_wp2_with fail
  refine Calls.mono (N1.out _) ?_;rintro e w1 ⟨rfl,rfl⟩;go_wp2_with fail
  refine Calls.mono (N2.out _) ?_;rintro e w1 ⟨rfl,rfl⟩;go_wp2
  go_returns
  exact ⟨rfl,(Below.refl _ _).alloc (Nat.le_refl _) _⟩
 have hE:=so (neg:=neg) (n:=N) (d:=D) hN (by omega);rw [hE];unfold aE;simp only;have hn1:=dN (gT hN);obtain ⟨g,hg⟩:∃g,g=Nat.gcd N D:=⟨_,rfl⟩;have hg0:0<g:=by rw [hg];exact Nat.gcd_pos_of_pos_right _ hd
 have G:=hid (fun w=>zK (aj N) (aj D) w (by omega) (by omega));simp only [aH] at G;rw [←hg] at G ⊢;have sg':(aj g).size<=500000000000:=by
  have:(aj g).size<=(aj N).size:=by
   rw [bX,bX];exact iO (by rw [hg];exact Nat.gcd_le_left _ (by omega))
  omega
 have D1:=hid (fun w=>sw (aj N) (aj g) w (by omega) sg' (by rw [aH];exact hg0));have D2:=hid (fun w=>sw (aj D) (aj g) w (by omega) sg' (by rw [aH];exact hg0));simp only [aH] at D1 D2;by_cases hD:D=1
 ·subst hD;have hg1:g=1:=by rw [hg];exact Nat.gcd_one_right N
  subst hg1;have HR:=hid (show aj (N/1)=aj N/\(if 1/1=1 then aA else aj (1/1))=({data:= #[]}:ByteArray) from ⟨by rw [Nat.div_one],rfl⟩);rw [HR.out.1,HR.out.2];rw [ct] at N2;generalize aj N=n at *
  clear G D1 D2 hE hg hg0 hd sa sb sg' ha hb hN HR;go_enter func88,ntmps88
  go_wp2_with fail
  refine Calls.mono (N1.out _) ?_;rintro e w1 ⟨rfl,rfl⟩;go_wp2_with fail
  refine Calls.mono (N2.out _) ?_;rintro e w1 ⟨rfl,rfl⟩;go_wp2
  go_returns
  exact ⟨rfl,(Below.refl _ _).alloc (Nat.le_refl _) _⟩
 have hd1:=gP (ie hD);by_cases hg1:g=1
 ·have HR:=hid (show aj (N/g)=aj N/\(if D/g=1 then aA else aj (D/g))=aj D from ⟨by rw [hg1,Nat.div_one],by rw [hg1,Nat.div_one,if_neg hD]⟩);rw [HR.out.1,HR.out.2];rw [hg1,ct] at G;generalize aj N=n at *
  generalize aj D=d at *
  clear D1 D2 hE hg hg0 hd sa sb sg' ha hb hN HR hD hg1;go_enter func88,ntmps88
  go_wp2_with fail
  refine Calls.mono (N1.out _) ?_;rintro e w1 ⟨rfl,rfl⟩;go_wp2_with fail
  refine Calls.mono (N2.out _) ?_;rintro e w1 ⟨rfl,rfl⟩;go_wp2_with fail
  refine Calls.mono (G.out _) ?_;rintro e w1 ⟨rfl,hb1⟩;have hx1:=hx0.out.next hb1;obtain ⟨x0,x1,x2,x3,x4⟩:=hx1.1.facts;go_wp2
  have S:=hx1.ret ⟨neg,n,d⟩;dsimp only at S;refine bo S.1 (fun W' c0 c1 c2=>by simp [results,Tryz.results88,go_sem,c0,c1,c2]) rfl ⟨rfl,S.2⟩
 have hgs:=gP (ie hg1);obtain ⟨n',hn'⟩:∃n',n'=aj (N/g):=⟨_,rfl⟩;rw [←hn'] at D1 ⊢;by_cases hq:D/g=1
 ·rw [hq,ct] at D2;have HR:=hid (show (if D/g=1 then aA else aj (D/g))=({data:= #[]}:ByteArray) by rw [if_pos hq];rfl);rw [HR.out];generalize aj (N%g)=n2 at *
  generalize aj (D%g)=n3 at *
  generalize aj N=n at *
  generalize aj D=d at *
  generalize aj g=gs at *
  clear hE hg hg0 hd sa sb sg' ha hb hN HR hD hg1 hq hn';go_enter func88,ntmps88
  go_wp2_with fail
  refine Calls.mono (N1.out _) ?_;rintro e w1 ⟨rfl,rfl⟩;go_wp2_with fail
  refine Calls.mono (N2.out _) ?_;rintro e w1 ⟨rfl,rfl⟩;go_wp2_with fail
  refine Calls.mono (G.out _) ?_;rintro e w1 ⟨rfl,hb1⟩;go_wp2_with fail
  refine Calls.mono (D1.out _) ?_;rintro e w2 ⟨rfl,hb2⟩;go_wp2_with fail
  refine Calls.mono (D2.out _) ?_;rintro e w3 ⟨rfl,hb3⟩;have hx1:=((hx0.out.next hb1).next hb2).next hb3;obtain ⟨x0,x1,x2,x3,x4⟩:=hx1.1.facts;go_wp2
  have S:=hx1.ret ⟨neg,n',{data:= #[]}⟩;dsimp only at S;refine bo S.1 (fun W' c0 c1 c2=>by simp [results,Tryz.results88,go_sem,c0,c1,c2]) rfl ⟨rfl,S.2⟩
 have hqs:=gP (ie hq);have HR:=hid (show (if D/g=1 then aA else aj (D/g))=aj (D/g) by rw [if_neg hq]);rw [HR.out];generalize aj (N%g)=n2 at *
 generalize aj (D%g)=n3 at *
 generalize aj (D/g)=d' at *
 generalize aj N=n at *
 generalize aj D=d at *
 generalize aj g=gs at *
 clear hE hg hg0 hd sa sb sg' ha hb hN HR hD hg1 hq hn';go_enter func88,ntmps88
 go_wp2_with fail
 refine Calls.mono (N1.out _) ?_;rintro e w1 ⟨rfl,rfl⟩;go_wp2_with fail
 refine Calls.mono (N2.out _) ?_;rintro e w1 ⟨rfl,rfl⟩;go_wp2_with fail
 refine Calls.mono (G.out _) ?_;rintro e w1 ⟨rfl,hb1⟩;go_wp2_with fail
 refine Calls.mono (D1.out _) ?_;rintro e w2 ⟨rfl,hb2⟩;go_wp2_with fail
 refine Calls.mono (D2.out _) ?_;rintro e w3 ⟨rfl,hb3⟩;have hx1:=((hx0.out.next hb1).next hb2).next hb3;obtain ⟨x0,x1,x2,x3,x4⟩:=hx1.1.facts;go_wp2
 have S:=hx1.ret ⟨neg,n',d'⟩;dsimp only at S;refine bo S.1 (fun W' c0 c1 c2=>by simp [results,Tryz.results88,go_sem,c0,c1,c2]) rfl ⟨rfl,S.2⟩
theorem Bz (z:Int):mkRat z 1=(z:Rat):=Rat.mkRat_self (z:Rat)
theorem Dk (n:Int) (w:World) (h0: -9223372036854775808<=n) (h1:n<=9223372036854775807):Calls prog 52 #[.int .i64 n] w fun e w'=>e= .returned (aE (enc (n:Rat)))/\Below w.heap.size w w':=by
 have M:=hid (fun w=>pO n w h0 h1);have hs:(aj n.natAbs).size<=8:=by rw [bX];exact bv (by omega)
 have R:=hid (fun w=>eM (decide (n<0)) (aj n.natAbs) {data:= #[1]} w (by omega) (by show 1<=_;decide) (by decide));have e1:ah {data:= #[1]}=1:=by rw [←ct,aH]
 rw [aH,e1,GY,Bz] at R;have hx0:=hid (Bx1.new w);generalize enc (n:Rat)=a at *
 generalize aj n.natAbs=s at *
 unfold aE;clear e1 hs;go_enter func52,ntmps52
 go_wp2_with fail
 refine Calls.mono (M.out _) ?_;rintro e w1 ⟨rfl,hb1⟩;go_wp2_with fail
 refine Calls.mono (R.out _) ?_;rintro e w2 ⟨rfl,hb2⟩;unfold aE;have hx1:=(hx0.out.next hb1).next hb2;obtain ⟨x0,x1,x2,x3,x4⟩:=hx1.1.facts;go_wp2
 refine bo (hx1.ret _).1 (fun W' c0 c1 c2=>by simp [results,Tryz.results52,go_sem,c0,c1,c2]) rfl ⟨rfl,(hx1.ret _).2⟩
theorem BA (r:GRat) (w:World) (h1:r.num.size<=500000000000) (h2:r.den.size<=500000000000):
  Calls prog 42 #[aE r] w fun e w'=>e= .returned (.int .i64 (cr (qOf r)))/\Below w.heap.size w w':=by
 have C:=hid (fun w=>cu r w h1 h2);have S:=hid (fun w=>kf (enc (qOf r)) w);rw [mI] at S;generalize enc (qOf r)=a at *
 generalize cr (qOf r)=s at *
 unfold aE;clear h1 h2;go_enter func42,ntmps42
 go_wp2_with fail
 refine Calls.mono (C.out _) ?_;rintro e w1 ⟨rfl,hb1⟩;go_wp2_with fail
 refine Calls.mono (S.out _) ?_;rintro e w2 ⟨rfl,hb2⟩;go_wp2
 go_ret
 exact ⟨rfl,Below.step (((Below.refl _ _).alloc (Nat.le_refl _) _).step hb1) hb2⟩
theorem Dl (n:Int) (w:World) (h0: -9223372036854775808<=n) (h1:n<=9223372036854775807):Calls prog 50 #[.int .i64 n] w fun e w'=>e= .returned (aE (enc (n:Rat)))/\Below w.heap.size w w':=by
 have S:=hid (fun w=>pC n w h0 h1);have F:=hid (fun w=>iM n.natAbs w (by omega));rw [FC];have hx0:=hid (Bx1.new w);generalize aj n.natAbs=s at *
 generalize ((n.natAbs:Nat):Int)=u at *
 unfold aE aA;simp only;go_enter func50,ntmps50
 go_wp2_with fail
 refine Calls.mono (S.out _) ?_;rintro e w1 ⟨rfl,rfl⟩;go_wp2_with fail
 refine Calls.mono (F.out _) ?_;rintro e w2 ⟨rfl,hb2⟩;have hx1:=hx0.out.next hb2;obtain ⟨x0,x1,x2,x3,x4⟩:=hx1.1.facts;go_wp2
 have S:=hx1.ret ⟨decide (n<0),s,{data:= #[]}⟩;dsimp only at S;refine bo S.1 (fun W' c0 c1 c2=>by simp [results,Tryz.results50,go_sem,c0,c1,c2]) rfl ⟨rfl,S.2⟩
theorem Dm (neg:Bool) (a b:ByteArray) (k:Nat) (w:World) (hk:k<=400000000000) (ha:a.size<=k) (hb:b.size<=k) (hd:0<ah b):
  Calls prog 143 #[.bool neg,.string a,.string b] w fun e w'=>e= .returned (.tuple #[aE (enc (mkRat (sg neg (ah a)) (ah b))),.bool true])/\Below w.heap.size w w':=by
 have L1:=hid (fun w=>iN a w (by omega));have L2:=hid (fun w=>iN b w (by omega));have NA:=hid (NB.str ha);have NB':=hid (NB.str hb);generalize ah a=N at *
 generalize ah b=D at *
 have R:=hid (fun (w:World) (u v:Value)=>eL neg u v N D k w NA.out NB'.out (by omega) hd);generalize enc (mkRat (sg neg N) D)=q at *
 have hx0:=hid (Bx1.new w);unfold aE;clear ha hb hk;have HD:=hid hd;clear hd;go_enter func143,ntmps143
 go_wp2_with fail
 refine Calls.mono (L2.out _) ?_;rintro e w1 ⟨v,rfl,hv,hb1⟩;obtain ⟨vb,voff,vm,vc,vx,rfl,hv2,hv3,hv4,hv5⟩:=hv.kind HD.out;have hvm:0<vm:=by omega
 clear hv2 hv3 hv5;go_wp2_with fail
 refine Calls.mono (L1.out _) ?_;rintro e w2 ⟨u,rfl,hu,hb2⟩;go_wp2_with fail
 refine Calls.mono (R.out _ _ _ hu (hv.below hb2)) ?_;rintro e w3 ⟨rfl,hb3⟩;unfold aE;have hx1:=((hx0.out.next hb1).next hb2).next hb3;obtain ⟨x0,x1,x2,x3,x4⟩:=hx1.1.facts;go_wp2
 refine sD (hx1.ret q).1 (fun W' c0 c1 c2=>by simp [results,Tryz.results143,go_sem,c0,c1,c2]) rfl ⟨rfl,(hx1.ret _).2⟩
theorem ug (a b:Nat) (w:World) (ha:a<=9223372036854775807) (hb:b<=9223372036854775807) (hd:0<b):
  Calls prog 90 #[.int .i64 a,.int .i64 b] w fun e w'=>e= .returned (.tuple #[aE (enc (mkRat (a:Int) b)),.bool true])/\Below w.heap.size w w':=by
 have S1:=hid (fun w=>pC a w (by omega) (by omega));have S2:=hid (fun w=>pC b w (by omega) (by omega));have F1:=hid (fun w=>iM a w (by omega));have F2:=hid (fun w=>iM b w (by omega));have s1:(aj a).size<=8:=by rw [bX];exact bv (by omega)
 have s2:(aj b).size<=8:=by rw [bX];exact bv (by omega)
 have M:=hid (fun w=>Dm false (aj a) (aj b) 8 w (by decide) s1 s2 (by rw [aH];exact hd));simp only [aH] at M;rw [show sg false a=(a:Int) from rfl] at M;rw [Int.natAbs_natCast] at S1 S2;generalize enc (mkRat (a:Int) b)=q at *
 have hx0:=hid (Bx1.new w);generalize aj a=sa at *
 generalize aj b=sb at *
 unfold aE;clear s1 s2;go_enter func90,ntmps90
 go_wp2_with fail
 refine Calls.mono (S1.out _) ?_;rintro e w1 ⟨rfl,rfl⟩;go_wp2_with fail
 refine Calls.mono (F1.out _) ?_;rintro e w1 ⟨rfl,hb1⟩;go_wp2_with fail
 refine Calls.mono (S2.out _) ?_;rintro e w2 ⟨rfl,rfl⟩;go_wp2_with fail
 refine Calls.mono (F2.out _) ?_;rintro e w2 ⟨rfl,hb2⟩;go_wp2_with fail
 refine Calls.mono (M.out _) ?_;rintro e w3 ⟨rfl,hb3⟩;unfold aE;have hx1:=((hx0.out.next hb1).next hb2).next hb3;obtain ⟨x0,x1,x2,x3,x4⟩:=hx1.1.facts;go_wp2
 refine sD (hx1.ret q).1 (fun W' c0 c1 c2=>by simp [results,Tryz.results90,go_sem,c0,c1,c2]) rfl ⟨rfl,(hx1.ret _).2⟩
attribute [local go_sem ↓] Go.wp_at_zero Go.wp_at_succ
def Dn (p q:Rat) (k X Y D:Nat):Prop:=NB k X/\NB k Y/\NB k D/\0<D/\(bi p=bi q->p+q=mkRat (sg (bi p) (X+Y)) D)/\
 (bi p≠bi q->X<Y->p+q=mkRat (sg (bi q) (Y-X)) D)/\(bi p≠bi q->Y<=X->p+q=mkRat (sg (bi p) (X-Y)) D)
theorem Do {p q:Rat} {m n:Nat} (hp:qB m p) (hq:qB n q):Dn p q (m+n) (p.num.natAbs*q.den) (q.num.natAbs*p.den) (p.den*q.den):=
 ⟨NB.mul hp.1 hq.2,by rw [Nat.add_comm];exact NB.mul hq.1 hp.2,NB.mul hp.2 hq.2,Nat.mul_pos p.den_pos q.den_pos,fun h=>su h,fun h=>zF h,fun h=>zG h⟩
theorem Dp {p q:Rat} {m n:Nat} (hp:qB m p) (hq:qB n q) (h:p.den=q.den):Dn p q (m+n) p.num.natAbs q.num.natAbs p.den:=
 ⟨NB.mono hp.1 (by omega),NB.mono hq.1 (by omega),NB.mono hp.2 (by omega),p.den_pos,fun e=>yb h e,fun e=>CS h e,fun e=>CT h e⟩
theorem NB.size {k n:Nat} (h:NB k n):(aj n).size<=k:=by rw [bX];exact bv h
theorem Bx3.drewN {w w1:World} {r1 r2:GRat} (h:Bx3 w w1 r1 r2) (n:Nat):Bx3 w (w1.drewN n) r1 r2:=⟨h.1,h.2.1,h.2.2.1,h.2.2.2.drewN n⟩
theorem vL (p q:Rat) (m n:Nat) (w:World) (hp:qB m p) (hq:qB n q) (hm:m<=100000000000) (hn:n<=100000000000):
  Calls prog 77 #[aE (enc p),aE (enc q)] w fun e w'=>e= .returned (aE (enc (p+q)))/\Below w.heap.size w w':=by
 have DA:=hid (fun w=>ig p w);have DB:=hid (fun w=>ig q w);have an:(enc p).num=aj p.num.natAbs:=rfl;have bn:(enc q).num=aj q.num.natAbs:=rfl;have s1:(aj p.num.natAbs).size<=m:=NB.size hp.1;have s2:(aj q.num.natAbs).size<=n:=NB.size hq.1;have s3:(aj p.den).size<=m:=NB.size hp.2;have s4:(aj q.den).size<=n:=NB.size hq.2;have M1:=hid (fun w=>dE (enc p).num (aj q.den) w (by rw [an];omega) (by omega));have M2:=hid (fun w=>dE (enc q).num (aj p.den) w (by rw [bn];omega) (by omega));have M3:=hid (fun w=>dE (aj p.den) (aj q.den) w (by omega) (by omega));simp only [an,bn,aH] at M1 M2 M3;simp only [←an,←bn] at M1 M2 M3;have HNe:=hid (Do hp hq);have HEq:=hid (fun h=>Dp hp hq h);have hde:p.den=q.den->(enc p).den=(enc q).den:=fun h=>by unfold enc;simp only [h]
 have hdn:p.den≠q.den->(enc p).den≠(enc q).den:=fun h e=>h (by have a1:=k6 p;have a2:=k6 q;unfold rQ at a1 a2;rw [e] at a1;omega)
 have HDE:=hid hde;have HDN:=hid (fun h=>pI (hdn h));have AN:=hid an;have BN:=hid bn;have hx0:=hid (Bx3.new w (enc p) (enc q));have en1:(enc p).neg=bi p:=rfl;have en2:(enc q).neg=bi q:=rfl;have EN1:=hid en1;have EN2:=hid en2;obtain ⟨k,hk⟩:∃k,k=m+n:=⟨_,rfl⟩;have hkb:k<=200000000000:=by omega
 rw [←hk] at HNe;simp only [←hk] at HEq;obtain ⟨c,hc⟩:∃c,c=enc (p+q):=⟨_,rfl⟩;rw [←hc];have HC:=hid hc;generalize enc p=a at *
 generalize enc q=b at *
 unfold aE at DA DB;unfold aE;clear hp hq an bn s1 s2 s3 s4 hde hdn hc hk en1 en2 hm hn;go_enter func77,ntmps77
 go_upto_region 1 with fail
 go_cut [5,6,7] (fun s5 s6 s7 wx=>s5= .string a.num/\s6= .string b.num/\s7= .string {data:= #[1]}/\Bx3 w wx a b)
 case first=>
  go_quiet (fail)
  go_wp2
  go_meet
  case rel=>exact ⟨rfl,rfl,rfl,Bx3.drewN hx0.out _⟩
 case rest=>
 obtain ⟨rfl,rfl,rfl,hx⟩:=hcut;obtain ⟨z0,z1,z2,z3,z4⟩:=hx.1.facts;obtain ⟨y0,y1,y2,y3,y4⟩:=hx.2.1.facts;go_upto_region 2 with fail
 go_cut [20] (fun s20 wx=>s20= .bool (decide (p.den≠q.den))/\wc=wx)
 case first=>
  by_cases hd:p.den=q.den
  ·have e1:(a.den.toList==b.den.toList)=true:=by rw [HDE.out hd];simp
   go_wp2
   go_meet
   case rel=>exact ⟨congrArg Value.bool (by simp [hd]),rfl⟩
  have e1:=HDN.out hd;go_wp2
  go_meet
  case rel=>exact ⟨congrArg Value.bool (by simp [hd]),rfl⟩
 case rest=>
 obtain ⟨rfl,rfl⟩:=hcut;go_upto_if 20 with fail
 go_cut [5,6,7] (fun s5 s6 s7 wx=>∃X Y D,s5= .string (aj X)/\s6= .string (aj Y)/\s7= .string (aj D)/\Hid (Dn p q k X Y D)/\Bx3 w wx a b)
 case first=>
  by_cases hd:p.den≠q.den
  rotate_left
  ·have HDD:=hid (Decidable.not_not.1 hd);go_wp2_with fail
   refine Calls.mono (DA.out _) ?_;rintro e w1 ⟨rfl,hb1⟩;go_wp2
   go_meet
   case rel=>exact ⟨p.num.natAbs,q.num.natAbs,p.den,by rw [AN.out],by rw [BN.out],rfl,HEq.out HDD.out,hx.next hb1⟩
  go_wp2_with fail
  go_region_held3 (fun w'=>w'.cell? ⟨w.heap.size,0,none⟩=some (.bool a.neg)/\w'.cell? ⟨w.heap.size,1,none⟩=some (.string a.num)/\w'.cell? ⟨w.heap.size,2,none⟩=some (.string a.den)/\w'.cell? ⟨w.heap.size+1,0,none⟩=some (.bool b.neg)/\w'.cell? ⟨w.heap.size+1,1,none⟩=some (.string b.num)/\w'.cell? ⟨w.heap.size+1,2,none⟩=some (.string b.den)) (go_keep)
   (first
    |(go_at_call_of 86 (Value.agg #[.bool a.neg,.string a.num,.string a.den]);refine Calls.mono (DA.out _) ?_;rintro e wn ⟨rfl,hbn⟩;(first|replace hx:=Bx3.next hx hbn|replace hx:=Bx3.next (Bx3.drew hx) hbn);clear z0 z1 z2 z3 z4 y0 y1 y2 y3 y4;obtain ⟨z0,z1,z2,z3,z4⟩:=hx.1.facts;obtain ⟨y0,y1,y2,y3,y4⟩:=hx.2.1.facts)
    |(go_at_call_of 86 (Value.agg #[.bool b.neg,.string b.num,.string b.den]);refine Calls.mono (DB.out _) ?_;rintro e wn ⟨rfl,hbn⟩;(first|replace hx:=Bx3.next hx hbn|replace hx:=Bx3.next (Bx3.drew hx) hbn);clear z0 z1 z2 z3 z4 y0 y1 y2 y3 y4;obtain ⟨z0,z1,z2,z3,z4⟩:=hx.1.facts;obtain ⟨y0,y1,y2,y3,y4⟩:=hx.2.1.facts)
    |(go_at_call_of 85 (Value.string a.num);refine Calls.mono (M1.out _) ?_;rintro e wn ⟨rfl,hbn⟩;(first|replace hx:=Bx3.next hx hbn|replace hx:=Bx3.next (Bx3.drew hx) hbn);clear z0 z1 z2 z3 z4 y0 y1 y2 y3 y4;obtain ⟨z0,z1,z2,z3,z4⟩:=hx.1.facts;obtain ⟨y0,y1,y2,y3,y4⟩:=hx.2.1.facts)
    |(go_at_call_of 85 (Value.string b.num);refine Calls.mono (M2.out _) ?_;rintro e wn ⟨rfl,hbn⟩;(first|replace hx:=Bx3.next hx hbn|replace hx:=Bx3.next (Bx3.drew hx) hbn);clear z0 z1 z2 z3 z4 y0 y1 y2 y3 y4;obtain ⟨z0,z1,z2,z3,z4⟩:=hx.1.facts;obtain ⟨y0,y1,y2,y3,y4⟩:=hx.2.1.facts))
  go_wp2_with fail
  go_region_held3 (fun w'=>w'.cell? ⟨w.heap.size,0,none⟩=some (.bool a.neg)/\w'.cell? ⟨w.heap.size,1,none⟩=some (.string a.num)/\w'.cell? ⟨w.heap.size,2,none⟩=some (.string a.den)/\w'.cell? ⟨w.heap.size+1,0,none⟩=some (.bool b.neg)/\w'.cell? ⟨w.heap.size+1,1,none⟩=some (.string b.num)/\w'.cell? ⟨w.heap.size+1,2,none⟩=some (.string b.den)) (go_keep)
   (first
    |(go_at_call_of 86 (Value.agg #[.bool a.neg,.string a.num,.string a.den]);refine Calls.mono (DA.out _) ?_;rintro e wn ⟨rfl,hbn⟩;(first|replace hx:=Bx3.next hx hbn|replace hx:=Bx3.next (Bx3.drew hx) hbn);clear z0 z1 z2 z3 z4 y0 y1 y2 y3 y4;obtain ⟨z0,z1,z2,z3,z4⟩:=hx.1.facts;obtain ⟨y0,y1,y2,y3,y4⟩:=hx.2.1.facts)
    |(go_at_call_of 86 (Value.agg #[.bool b.neg,.string b.num,.string b.den]);refine Calls.mono (DB.out _) ?_;rintro e wn ⟨rfl,hbn⟩;(first|replace hx:=Bx3.next hx hbn|replace hx:=Bx3.next (Bx3.drew hx) hbn);clear z0 z1 z2 z3 z4 y0 y1 y2 y3 y4;obtain ⟨z0,z1,z2,z3,z4⟩:=hx.1.facts;obtain ⟨y0,y1,y2,y3,y4⟩:=hx.2.1.facts)
    |(go_at_call_of 85 (Value.string (aj p.den));refine Calls.mono (M3.out _) ?_;rintro e wn ⟨rfl,hbn⟩;(first|replace hx:=Bx3.next hx hbn|replace hx:=Bx3.next (Bx3.drew hx) hbn);clear z0 z1 z2 z3 z4 y0 y1 y2 y3 y4;obtain ⟨z0,z1,z2,z3,z4⟩:=hx.1.facts;obtain ⟨y0,y1,y2,y3,y4⟩:=hx.2.1.facts))
  go_wp2
  go_meet
  case rel=>exact ⟨_,_,_,rfl,rfl,rfl,HNe,hx⟩
 case rest=>
  clear z0 z1 z2 z3 z4 y0 y1 y2 y3 y4 hx;obtain ⟨X,Y,D,rfl,rfl,rfl,HS,hx⟩:=hcut;obtain ⟨z0,z1,z2,z3,z4⟩:=hx.1.facts;obtain ⟨y0,y1,y2,y3,y4⟩:=hx.2.1.facts;obtain ⟨nx,ny,nd,hD0,f1,f2,f3⟩:=HS.out;have sx:=nx.size;have sy:=ny.size;have sd:=nd.size;by_cases hs:bi p=bi q
  ·have e:(a.neg==b.neg)=true:=by rw [EN1.out,EN2.out,hs];simp
   have hE:=f1 hs;have hxy:(aj (X+Y)).size<=400000000000:=Nat.le_trans (nx.add ny).size (by omega);have A1:=hid (fun w=>Fy (aj X) (aj Y) w (by omega) (by omega));have R1:=hid (fun w=>eM (bi p) (aj (X+Y)) (aj D) w hxy (by omega) (by rw [aH];exact hD0));simp only [aH] at A1 R1;rw [←hE,←HC.out,←EN1.out] at R1;clear hs hE f1 f2 f3 nx ny nd sx sy sd hD0 hxy HS;go_wp2_with fail
   go_region_with (first
    |(go_at_call 124;refine Calls.mono (A1.out _) ?_;rintro e wn ⟨rfl,hbn⟩;replace hx:=Bx3.next (Bx3.drew hx) hbn;clear z0 z1 z2 z3 z4 y0 y1 y2 y3 y4;obtain ⟨z0,z1,z2,z3,z4⟩:=hx.1.facts)
    |(go_at_call 88;refine Calls.mono (R1.out _) ?_;rintro e wm ⟨rfl,hbm⟩;unfold aE;replace hx:=Bx3.next hx hbm;obtain ⟨t0,t1,t2,t3,t4⟩:=hx.2.2.1.facts))
   all_goals (go_wp2;refine bo (hx.ret c).1 (fun W' c0 c1 c2=>by simp [results,Tryz.results77,go_sem,c0,c1,c2]) rfl ⟨rfl,(hx.ret c).2⟩)
  have e:(a.neg==b.neg)=false:=by rw [EN1.out,EN2.out];simp [hs]
  by_cases hl:X<Y
  ·have hE:=f2 hs hl;have A1:=hid (fun w=>vk (aj X) (aj Y) w (by omega) (by omega) (by rw [aH,aH];exact hl));have A2:=hid (fun w=>oB (aj Y) (aj X) w (by omega) (by omega) (by rw [aH,aH];omega));have hxy:(aj (Y-X)).size<=400000000000:=Nat.le_trans (ny.le (Nat.sub_le _ _)).size (by omega);have R1:=hid (fun w=>eM (bi q) (aj (Y-X)) (aj D) w hxy (by omega) (by rw [aH];exact hD0));simp only [aH] at A1 A2 R1;rw [←hE,←HC.out,←EN2.out] at R1;clear hs hE f1 f2 f3 nx ny nd sx sy sd hD0 hxy HS hl;go_wp2_with fail
   refine Calls.mono (A1.out _) ?_;rintro e8 w8 ⟨rfl,hb8⟩;replace hx:=Bx3.next hx hb8;go_wp2_with fail
   refine Calls.mono (A2.out _) ?_;rintro e9 w9 ⟨rfl,hb9⟩;replace hx:=Bx3.next hx hb9;clear z0 z1 z2 z3 z4 y0 y1 y2 y3 y4;obtain ⟨y0,y1,y2,y3,y4⟩:=hx.2.1.facts;go_wp2_with fail
   refine Calls.mono (R1.out _) ?_;rintro ea wa ⟨rfl,hba⟩;unfold aE;replace hx:=Bx3.next hx hba;obtain ⟨t0,t1,t2,t3,t4⟩:=hx.2.2.1.facts;go_wp2
   refine bo (hx.ret c).1 (fun W' c0 c1 c2=>by simp [results,Tryz.results77,go_sem,c0,c1,c2]) rfl ⟨rfl,(hx.ret c).2⟩
  have hE:=f3 hs (Nat.le_of_not_lt hl);have A1:=hid (fun w=>oB (aj X) (aj Y) w (by omega) (by omega) (by rw [aH,aH];omega));have hxy:(aj (X-Y)).size<=400000000000:=Nat.le_trans (nx.le (Nat.sub_le _ _)).size (by omega);have R1:=hid (fun w=>eM (bi p) (aj (X-Y)) (aj D) w hxy (by omega) (by rw [aH];exact hD0));simp only [aH] at A1 R1;rw [←hE,←HC.out,←EN1.out] at R1;clear hs hE f1 f2 f3 nx ny nd sx sy sd hD0 hxy HS hl;go_wp2_with fail
  refine Calls.mono (A1.out _) ?_;rintro e8 w8 ⟨rfl,hb8⟩;replace hx:=Bx3.next hx hb8;clear z0 z1 z2 z3 z4 y0 y1 y2 y3 y4;obtain ⟨z0,z1,z2,z3,z4⟩:=hx.1.facts;go_wp2_with fail
  refine Calls.mono (R1.out _) ?_;rintro ea wa ⟨rfl,hba⟩;unfold aE;replace hx:=Bx3.next hx hba;obtain ⟨t0,t1,t2,t3,t4⟩:=hx.2.2.1.facts;go_wp2
  refine bo (hx.ret c).1 (fun W' c0 c1 c2=>by simp [results,Tryz.results77,go_sem,c0,c1,c2]) rfl ⟨rfl,(hx.ret c).2⟩
attribute [local go_sem ↓] Go.wp_at_zero Go.wp_at_succ
def sB (m:Nat) (r:GRat):Prop:=r.num.size<=m/\r.den.size<=m
theorem sB.qB {m:Nat} {r:GRat} (h:sB m r) (hm:0<m):qB m (qOf r):=Id hm h.1 h.2
theorem dj {m:Nat} {q:Rat} (h:Go.Proofs.YtokmkopihhnggaaGreatDoor.qB m q):sB m (enc q):=ib h
theorem Dq (r1 r2:GRat) (m n:Nat) (w:World) (h1:sB m r1) (h2:sB n r2) (hm:m<=100000000000) (hn:n<=100000000000) (hm0:0<m) (hn0:0<n):
  Calls prog 31 #[aE r1,aE r2] w fun e w'=>e= .returned (aE (enc (qOf r1+qOf r2)))/\Below w.heap.size w w':=by
 have C1:=hid (fun w=>cu r1 w (by have:=h1.1;omega) (by have:=h1.2;omega));have C2:=hid (fun w=>cu r2 w (by have:=h2.1;omega) (by have:=h2.2;omega));have A:=hid (fun w=>vL (qOf r1) (qOf r2) m n w (h1.qB hm0) (h2.qB hn0) hm hn);have hx:=(Bx3.new w r1 r2).drew;obtain ⟨z0,z1,z2,z3,z4⟩:=hx.1.facts;clear z0 z1 z2 z3 z4;generalize enc (qOf r1+qOf r2)=c at *
 generalize enc (qOf r1)=a at *
 generalize enc (qOf r2)=b at *
 have HX:=hid hx;clear hx h1 h2 hm hn hm0 hn0;unfold aE at C1 C2 A;unfold aE;go_enter func31,ntmps31
 go_wp2_with fail
 go_region_with (first
  |(go_at_call_of 78 (Value.agg #[.bool r1.neg,.string r1.num,.string r1.den]);refine Calls.mono (C1.out _) ?_;rintro e w1 ⟨rfl,hb1⟩;have hx1:=Bx3.next HX.out hb1;obtain ⟨y0,y1,y2,y3,y4⟩:=hx1.2.1.facts)
  |(go_at_call_of 78 (Value.agg #[.bool r2.neg,.string r2.num,.string r2.den]);refine Calls.mono (C2.out _) ?_;rintro e w2 ⟨rfl,hb2⟩;have hx2:=Bx3.next hx1 hb2)
  |(go_at_call 77;refine Calls.mono (A.out _) ?_;rintro e w3 ⟨rfl,hb3⟩;have hx3:=Bx3.next hx2 hb3;obtain ⟨t0,t1,t2,t3,t4⟩:=hx3.2.2.1.facts))
 all_goals (go_wp2;refine bo (hx3.ret c).1 (fun W' c0 c1 c2=>by simp [results,Tryz.results31,go_sem,c0,c1,c2]) rfl ⟨rfl,(hx3.ret c).2⟩)
theorem rS (r1 r2:GRat) (m n:Nat) (w:World) (h1:sB m r1) (h2:sB n r2) (hm:m<=100000000000) (hn:n<=100000000000) (hm0:0<m) (hn0:0<n):
  Calls prog 39 #[aE r1,aE r2] w fun e w'=>e= .returned (aE (enc (qOf r1-qOf r2)))/\Below w.heap.size w w':=by
 have C1:=hid (fun w=>cu r1 w (by have:=h1.1;omega) (by have:=h1.2;omega));have C2:=hid (fun w=>cu r2 w (by have:=h2.1;omega) (by have:=h2.2;omega));have N:=hid (fun w=>vK (enc (qOf r2)) w (fun h=>by have e:=(cg _).1 h;rw [e];rfl));rw [pG] at N;have A:=hid (fun w=>vL (qOf r1) (-qOf r2) m n w (h1.qB hm0) (h2.qB hn0).neg hm hn);rw [←Rat.sub_eq_add_neg] at A;have HX:=hid (Bx3.new w r1 r2).drew;generalize enc (qOf r1-qOf r2)=c at *
 generalize enc (-qOf r2)=d at *
 generalize enc (qOf r1)=a at *
 generalize enc (qOf r2)=b at *
 clear h1 h2 hm hn hm0 hn0;unfold aE at C1 C2 A N;unfold aE;go_enter func39,ntmps39
 go_wp2_with fail
 go_region_with (first
  |(go_at_call_of 78 (Value.agg #[.bool r1.neg,.string r1.num,.string r1.den]);refine Calls.mono (C1.out _) ?_;rintro e w1 ⟨rfl,hb1⟩;have hx1:=Bx3.next HX.out hb1;obtain ⟨y0,y1,y2,y3,y4⟩:=hx1.2.1.facts)
  |(go_at_call_of 78 (Value.agg #[.bool r2.neg,.string r2.num,.string r2.den]);refine Calls.mono (C2.out _) ?_;rintro e w2 ⟨rfl,hb2⟩;have hx2:=Bx3.next hx1 hb2)
  |(go_at_call 89;refine Calls.mono (N.out _) ?_;rintro e w4 ⟨rfl,hb4⟩;replace hx2:=Bx3.next hx2 hb4)
  |(go_at_call 77;refine Calls.mono (A.out _) ?_;rintro e w3 ⟨rfl,hb3⟩;have hx3:=Bx3.next hx2 hb3;obtain ⟨t0,t1,t2,t3,t4⟩:=hx3.2.2.1.facts))
 all_goals (go_wp2;refine bo (hx3.ret c).1 (fun W' c0 c1 c2=>by simp [results,Tryz.results39,go_sem,c0,c1,c2]) rfl ⟨rfl,(hx3.ret c).2⟩)
attribute [local go_sem ↓] Go.wp_at_zero Go.wp_at_succ
abbrev put3 (w:World) (b:Nat) (a:GRat):World:=((w.setCell ⟨b,0,none⟩ (.bool a.neg)).setCell ⟨b,1,none⟩ (.string a.num)).setCell ⟨b,2,none⟩ (.string a.den)
theorem Bx.put {w:World} {b:Nat} {r:GRat} (h:Bx w b r) (a:GRat):Bx (put3 w b a) b a:=(Blk3.stored h _ _ _).2.2.2
theorem Bx.other {w:World} {b b':Nat} {r:GRat} (h:Bx w b r) (hne:b'≠b) (a:GRat):Bx (put3 w b' a) b r:=((Blk3.other h hne _ _).other hne _ _).other hne _ _
theorem i8 {w w1:World} {b:Nat} (h:Below w.heap.size w w1) (hb:w.heap.size<=b) (a:GRat):Below w.heap.size w (put3 w1 b a):=((h.setCell hb _).setCell hb _).setCell hb _
theorem Bx2.put2 {w w1:World} {r1 r2:GRat} (h:Bx2 w w1 r1 r2) (a b:GRat):Bx2 w (put3 (put3 w1 w.heap.size a) (w.heap.size+1) b) a b:=
 ⟨(h.1.put a).other (by omega) b,(h.2.1.other (by omega) a).put b,i8 (i8 h.2.2 (Nat.le_refl _) a) (by omega) b⟩
theorem Bx3.put2 {w w1:World} {r1 r2:GRat} (h:Bx3 w w1 r1 r2) (a b:GRat):Bx3 w (put3 (put3 w1 w.heap.size a) (w.heap.size+1) b) a b:=
 ⟨(h.1.put a).other (by omega) b,(h.2.1.other (by omega) a).put b,(h.2.2.1.other (by omega) a).other (by omega) b,i8 (i8 h.2.2.2 (Nat.le_refl _) a) (by omega) b⟩
theorem BB (x y:Nat): -1<=bB x y/\bB x y<=1:=by unfold bB;split<;>(try split)<;>omega
theorem js (r1 r2:GRat) (m n:Nat) (w:World) (h1:sB m r1) (h2:sB n r2) (hm:m<=100000000000) (hn:n<=100000000000) (hm0:0<m) (hn0:0<n):
  Calls prog 34 #[aE r1,aE r2] w fun e w'=>e= .returned (.int .i64 (dQ (qOf r1) (qOf r2)))/\Below w.heap.size w w':=by
 have C1:=hid (fun w=>cu r1 w (by have:=h1.1;omega) (by have:=h1.2;omega));have C2:=hid (fun w=>cu r2 w (by have:=h2.1;omega) (by have:=h2.2;omega));have S1:=hid (fun w=>kf (enc (qOf r1)) w);have S2:=hid (fun w=>kf (enc (qOf r2)) w);rw [mI] at S1 S2;have DA:=hid (fun w=>ig (qOf r1) w);have DB:=hid (fun w=>ig (qOf r2) w);have hp:=h1.qB hm0;have hq:=h2.qB hn0;generalize qOf r1=p at *
 generalize qOf r2=q at *
 have an:(enc p).num=aj p.num.natAbs:=rfl;have bn:(enc q).num=aj q.num.natAbs:=rfl;have s1:(aj p.num.natAbs).size<=m:=NB.size hp.1;have s2:(aj q.num.natAbs).size<=n:=NB.size hq.1;have s3:(aj p.den).size<=m:=NB.size hp.2;have s4:(aj q.den).size<=n:=NB.size hq.2;have M1:=hid (fun w=>dE (enc p).num (aj q.den) w (by rw [an];omega) (by omega));have M2:=hid (fun w=>dE (enc q).num (aj p.den) w (by rw [bn];omega) (by omega));simp only [an,bn,aH] at M1 M2;simp only [←an,←bn] at M1 M2;obtain ⟨X,hX⟩:∃X,X=p.num.natAbs*q.den:=⟨_,rfl⟩;obtain ⟨Y,hY⟩:∃X,X=q.num.natAbs*p.den:=⟨_,rfl⟩;have nx:(aj X).size<=m+n:=by rw [hX];exact NB.size (NB.mul hp.1 hq.2)
 have ny:(aj Y).size<=n+m:=by rw [hY];exact NB.size (NB.mul hq.1 hp.2)
 have CO:=hid (fun w=>vJ (aj X) (aj Y) w (by unfold maxLen;omega) (by unfold maxLen;omega));rw [aH,aH] at CO;have hpos:bi p=false->bi q=false->dQ p q=bB X Y:=fun a b=>by rw [hX,hY];exact CW a b
 have hneg:bi p=true->bi q=true->dQ p q= - bB X Y:=fun a b=>by rw [hX,hY];exact CX a b
 rw [←hX] at M1;rw [←hY] at M2;have hc:=BB X Y;have HPOS:=hid hpos;have HNEG:=hid hneg;have HSG:=hid (fun h=>CY (p:=p) (q:=q) h);have HSE:=hid (fun h=>Fz (p:=p) (q:=q) h);have HX:=hid (Bx2.new w r1 r2).drew;have EN1:Hid ((enc p).neg=bi p):=rfl;generalize bB X Y=c at *
 generalize enc p=a at *
 generalize enc q=b at *
 obtain ⟨sp,hsp⟩:∃s,s=cr p:=⟨_,rfl⟩;obtain ⟨sq,hsq⟩:∃s,s=cr q:=⟨_,rfl⟩;rw [←hsp] at S1 HSG HSE;rw [←hsq] at S2 HSG HSE;obtain ⟨k,hk⟩:∃k,k=dQ p q:=⟨_,rfl⟩;rw [←hk] at HSG HPOS HNEG ⊢;clear hpos hneg hX hY an bn s1 s2 s3 s4 nx ny hp hq h1 h2 hm hn hm0 hn0 hsp hsq hk;unfold aE at C1 C2 S1 S2 DA DB;unfold aE;go_enter func34,ntmps34
 go_upto_region 1 with fail
 go_cut [8,9,10,11] (fun _ _ _ _ wx=>Bx2 w wx a b)
 case first=>
  go_region_with (first
   |(go_at_call_of 78 (Value.agg #[.bool r1.neg,.string r1.num,.string r1.den]);refine Calls.mono (C1.out _) ?_;rintro e w1 ⟨rfl,hb1⟩;have hx1:=Bx2.next HX.out hb1;obtain ⟨y0,y1,y2,y3,y4⟩:=hx1.2.1.facts)
   |(go_at_call_of 78 (Value.agg #[.bool r2.neg,.string r2.num,.string r2.den]);refine Calls.mono (C2.out _) ?_;rintro e w2 ⟨rfl,hb2⟩;have hx2:=Bx2.next hx1 hb2;clear y0 y1 y2 y3 y4;obtain ⟨t0,t1,t2,t3,t4⟩:=hx2.1.facts;obtain ⟨y0,y1,y2,y3,y4⟩:=hx2.2.1.facts))
  all_goals (go_wp2;go_meet;exact hx2.put2 a b)
 case rest=>
  have hx:=hcut;obtain ⟨z0,z1,z2,z3,z4⟩:=hx.1.facts;obtain ⟨y0,y1,y2,y3,y4⟩:=hx.2.1.facts;clear hcut HX C1 C2;go_upto_region 2 with fail
  go_cut [5,6] (fun s5 s6 wx=>s5= .int .i64 sp/\s6= .int .i64 sq/\Bx2 w wx a b)
  case first=>
   go_region_held3 (fun w'=>w'.cell? ⟨w.heap.size,0,none⟩=some (.bool a.neg)/\w'.cell? ⟨w.heap.size,1,none⟩=some (.string a.num)/\w'.cell? ⟨w.heap.size,2,none⟩=some (.string a.den)/\w'.cell? ⟨w.heap.size+1,0,none⟩=some (.bool b.neg)/\w'.cell? ⟨w.heap.size+1,1,none⟩=some (.string b.num)/\w'.cell? ⟨w.heap.size+1,2,none⟩=some (.string b.den)) (go_keep)
    (first
     |(go_at_call_of 83 (Value.agg #[.bool a.neg,.string a.num,.string a.den]);refine Calls.mono (S1.out _) ?_;rintro e wn ⟨rfl,hbn⟩;(first|replace hx:=Bx2.next hx hbn|replace hx:=Bx2.next (Bx2.drew hx) hbn);clear z0 z1 z2 z3 z4 y0 y1 y2 y3 y4;obtain ⟨z0,z1,z2,z3,z4⟩:=hx.1.facts;obtain ⟨y0,y1,y2,y3,y4⟩:=hx.2.1.facts)
     |(go_at_call_of 83 (Value.agg #[.bool b.neg,.string b.num,.string b.den]);refine Calls.mono (S2.out _) ?_;rintro e wn ⟨rfl,hbn⟩;(first|replace hx:=Bx2.next hx hbn|replace hx:=Bx2.next (Bx2.drew hx) hbn);clear z0 z1 z2 z3 z4 y0 y1 y2 y3 y4;obtain ⟨z0,z1,z2,z3,z4⟩:=hx.1.facts;obtain ⟨y0,y1,y2,y3,y4⟩:=hx.2.1.facts))
   go_wp2
   go_meet
   case rel=>exact ⟨rfl,rfl,hx⟩
  case rest=>
  clear hx z0 z1 z2 z3 z4 y0 y1 y2 y3 y4;obtain ⟨rfl,rfl,hx⟩:=hcut;obtain ⟨z0,z1,z2,z3,z4⟩:=hx.1.facts;obtain ⟨y0,y1,y2,y3,y4⟩:=hx.2.1.facts;have hbx:=hid hx.2.2;by_cases hs:sp=sq
  ·subst hs;have hxn:=hid hx;go_upto_region 7 with fail
   go_cut [7] (fun s7 wx=>s7= .int .i64 c/\Bx2 w wx a b)
   case first=>
    go_region_held3 (fun w'=>w'.cell? ⟨w.heap.size,0,none⟩=some (.bool a.neg)/\w'.cell? ⟨w.heap.size,1,none⟩=some (.string a.num)/\w'.cell? ⟨w.heap.size,2,none⟩=some (.string a.den)/\w'.cell? ⟨w.heap.size+1,0,none⟩=some (.bool b.neg)/\w'.cell? ⟨w.heap.size+1,1,none⟩=some (.string b.num)/\w'.cell? ⟨w.heap.size+1,2,none⟩=some (.string b.den)) (go_keep)
     (first
      |(go_at_call_of 86 (Value.agg #[.bool a.neg,.string a.num,.string a.den]);refine Calls.mono (DA.out _) ?_;rintro e wn ⟨rfl,hbn⟩;(first|replace hx:=Bx2.next hx hbn|replace hx:=Bx2.next (Bx2.drew hx) hbn);clear z0 z1 z2 z3 z4 y0 y1 y2 y3 y4;obtain ⟨z0,z1,z2,z3,z4⟩:=hx.1.facts;obtain ⟨y0,y1,y2,y3,y4⟩:=hx.2.1.facts)
      |(go_at_call_of 86 (Value.agg #[.bool b.neg,.string b.num,.string b.den]);refine Calls.mono (DB.out _) ?_;rintro e wn ⟨rfl,hbn⟩;(first|replace hx:=Bx2.next hx hbn|replace hx:=Bx2.next (Bx2.drew hx) hbn);clear z0 z1 z2 z3 z4 y0 y1 y2 y3 y4;obtain ⟨z0,z1,z2,z3,z4⟩:=hx.1.facts;obtain ⟨y0,y1,y2,y3,y4⟩:=hx.2.1.facts)
      |(go_at_call_of 85 (Value.string a.num);refine Calls.mono (M1.out _) ?_;rintro e wn ⟨rfl,hbn⟩;(first|replace hx:=Bx2.next hx hbn|replace hx:=Bx2.next (Bx2.drew hx) hbn);clear z0 z1 z2 z3 z4 y0 y1 y2 y3 y4;obtain ⟨z0,z1,z2,z3,z4⟩:=hx.1.facts;obtain ⟨y0,y1,y2,y3,y4⟩:=hx.2.1.facts)
      |(go_at_call_of 85 (Value.string b.num);refine Calls.mono (M2.out _) ?_;rintro e wn ⟨rfl,hbn⟩;(first|replace hx:=Bx2.next hx hbn|replace hx:=Bx2.next (Bx2.drew hx) hbn);clear z0 z1 z2 z3 z4 y0 y1 y2 y3 y4;obtain ⟨z0,z1,z2,z3,z4⟩:=hx.1.facts;obtain ⟨y0,y1,y2,y3,y4⟩:=hx.2.1.facts)
      |(go_at_call 84;refine Calls.mono (CO.out _) ?_;rintro e wn ⟨rfl,rfl⟩))
    go_wp2
    go_meet
    case rel=>exact ⟨rfl,hx⟩
   case rest=>
   clear hx z0 z1 z2 z3 z4 y0 y1 y2 y3 y4 hbx hxn;obtain ⟨rfl,hx⟩:=hcut;obtain ⟨z0,z1,z2,z3,z4⟩:=hx.1.facts;have hbx:=hid hx.2.2;rcases HSE.out rfl with ⟨g1,g2⟩|⟨g1,g2⟩
   ·have hk:=hid (HNEG.out g1 g2);have ha:a.neg=true:=by rw [EN1.out];exact g1
    rw [ha] at z0;clear ha g1 g2 hx;go_wp2
    go_ret
    exact ⟨b7 (by rw [hk.out]),hbx.out⟩
   have hk:=hid (HPOS.out g1 g2);have ha:a.neg=false:=by rw [EN1.out];exact g1
   rw [ha] at z0;clear ha g1 g2 hx;go_wp2
   go_ret
   exact ⟨b7 (by rw [hk.out]),hbx.out⟩
  have hk:=hid (HSG.out hs);have e1:(sp==sq)=false:=by simpa using hs
  have e2:(sp !=sq)=true:=by simp [bne,e1]
  clear hx z0 z1 z2 z3 z4 y0 y1 y2 y3 y4;by_cases hl:sp<sq
  ·have hk2:=hid (show k= -1 by rw [hk.out,if_pos hl]);go_wp2
   go_ret
   exact ⟨b7 (by rw [hk2.out]),hbx.out⟩
  have hk2:=hid (show k=1 by rw [hk.out,if_neg hl]);go_wp2
  go_ret
  exact ⟨b7 (by rw [hk2.out]),hbx.out⟩
attribute [local go_sem ↓] Go.wp_at_zero Go.wp_at_succ
theorem Dr (r1 r2:GRat) (m n:Nat) (w:World) (h1:sB m r1) (h2:sB n r2) (hm:m<=100000000000) (hn:n<=100000000000) (hm0:0<m) (hn0:0<n):
  Calls prog 133 #[aE r1,aE r2] w fun e w'=>e= .returned (aE (enc (oX (qOf r1) (qOf r2))))/\Below w.heap.size w w':=by
 have C1:=hid (fun w=>cu r1 w (by have:=h1.1;omega) (by have:=h1.2;omega));have C2:=hid (fun w=>cu r2 w (by have:=h2.1;omega) (by have:=h2.2;omega));have CM:=hid (fun w=>js r1 r2 m n w h1 h2 hm hn hm0 hn0);have HX:=hid (Bx3.new w r1 r2);have hyes:0<=dQ (qOf r1) (qOf r2)->oX (qOf r1) (qOf r2)=qOf r1:=fun h=>by unfold dQ at h;unfold oX;grind
 have hno:¬(0<=dQ (qOf r1) (qOf r2))->oX (qOf r1) (qOf r2)=qOf r2:=fun h=>by unfold dQ at h;unfold oX;grind
 by_cases h:0<=dQ (qOf r1) (qOf r2)
 ·rw [hyes h];generalize dQ (qOf r1) (qOf r2)=k at *
  generalize enc (qOf r1)=a at *
  clear h1 h2 hm hn hm0 hn0 hyes hno C2;unfold aE at C1 CM;unfold aE;go_enter func133,ntmps133
  go_wp2_with fail
  refine Calls.mono (CM.out _) ?_;rintro e w1 ⟨rfl,hb1⟩;have hx:=HX.out.next hb1;obtain ⟨z0,z1,z2,z3,z4⟩:=hx.1.facts;go_wp2_with fail
  refine Calls.mono (C1.out _) ?_;rintro e w2 ⟨rfl,hb2⟩;replace hx:=hx.next hb2;clear z0 z1 z2 z3 z4;obtain ⟨t0,t1,t2,t3,t4⟩:=hx.2.2.1.facts;go_wp2
  refine bo (hx.ret a).1 (fun W' c0 c1 c2=>by simp [results,Tryz.results133,go_sem,c0,c1,c2]) rfl ⟨rfl,(hx.ret a).2⟩
 rw [hno h];generalize dQ (qOf r1) (qOf r2)=k at *
 generalize enc (qOf r2)=a at *
 clear h1 h2 hm hn hm0 hn0 hyes hno C1;unfold aE at C2 CM;unfold aE;go_enter func133,ntmps133
 go_wp2_with fail
 refine Calls.mono (CM.out _) ?_;rintro e w1 ⟨rfl,hb1⟩;have hx:=HX.out.next hb1;obtain ⟨z0,z1,z2,z3,z4⟩:=hx.2.1.facts;go_wp2_with fail
 refine Calls.mono (C2.out _) ?_;rintro e w2 ⟨rfl,hb2⟩;replace hx:=hx.next hb2;clear z0 z1 z2 z3 z4;obtain ⟨t0,t1,t2,t3,t4⟩:=hx.2.2.1.facts;go_wp2
 refine bo (hx.ret a).1 (fun W' c0 c1 c2=>by simp [results,Tryz.results133,go_sem,c0,c1,c2]) rfl ⟨rfl,(hx.ret a).2⟩
theorem Ds (r1 r2:GRat) (m n:Nat) (w:World) (h1:sB m r1) (h2:sB n r2) (hm:m<=100000000000) (hn:n<=100000000000) (hm0:0<m) (hn0:0<n):
  Calls prog 36 #[aE r1,aE r2] w fun e w'=>e= .returned (aE (enc (bT (qOf r1) (qOf r2))))/\Below w.heap.size w w':=by
 have C1:=hid (fun w=>cu r1 w (by have:=h1.1;omega) (by have:=h1.2;omega));have C2:=hid (fun w=>cu r2 w (by have:=h2.1;omega) (by have:=h2.2;omega));have CM:=hid (fun w=>js r1 r2 m n w h1 h2 hm hn hm0 hn0);have HX:=hid (Bx3.new w r1 r2);have hyes:dQ (qOf r1) (qOf r2)<=0->bT (qOf r1) (qOf r2)=qOf r1:=fun h=>by unfold dQ at h;unfold bT;grind
 have hno:¬(dQ (qOf r1) (qOf r2)<=0)->bT (qOf r1) (qOf r2)=qOf r2:=fun h=>by unfold dQ at h;unfold bT;grind
 by_cases h:dQ (qOf r1) (qOf r2)<=0
 ·rw [hyes h];generalize dQ (qOf r1) (qOf r2)=k at *
  generalize enc (qOf r1)=a at *
  clear h1 h2 hm hn hm0 hn0 hyes hno C2;unfold aE at C1 CM;unfold aE;go_enter func36,ntmps36
  go_wp2_with fail
  refine Calls.mono (CM.out _) ?_;rintro e w1 ⟨rfl,hb1⟩;have hx:=HX.out.next hb1;obtain ⟨z0,z1,z2,z3,z4⟩:=hx.1.facts;go_wp2_with fail
  refine Calls.mono (C1.out _) ?_;rintro e w2 ⟨rfl,hb2⟩;replace hx:=hx.next hb2;clear z0 z1 z2 z3 z4;obtain ⟨t0,t1,t2,t3,t4⟩:=hx.2.2.1.facts;go_wp2
  refine bo (hx.ret a).1 (fun W' c0 c1 c2=>by simp [results,Tryz.results36,go_sem,c0,c1,c2]) rfl ⟨rfl,(hx.ret a).2⟩
 rw [hno h];generalize dQ (qOf r1) (qOf r2)=k at *
 generalize enc (qOf r2)=a at *
 clear h1 h2 hm hn hm0 hn0 hyes hno C1;unfold aE at C2 CM;unfold aE;go_enter func36,ntmps36
 go_wp2_with fail
 refine Calls.mono (CM.out _) ?_;rintro e w1 ⟨rfl,hb1⟩;have hx:=HX.out.next hb1;obtain ⟨z0,z1,z2,z3,z4⟩:=hx.2.1.facts;go_wp2_with fail
 refine Calls.mono (C2.out _) ?_;rintro e w2 ⟨rfl,hb2⟩;replace hx:=hx.next hb2;clear z0 z1 z2 z3 z4;obtain ⟨t0,t1,t2,t3,t4⟩:=hx.2.2.1.facts;go_wp2
 refine bo (hx.ret a).1 (fun W' c0 c1 c2=>by simp [results,Tryz.results36,go_sem,c0,c1,c2]) rfl ⟨rfl,(hx.ret a).2⟩
theorem rT (r1 r2:GRat) (m n:Nat) (w:World) (h1:sB m r1) (h2:sB n r2) (hm:m<=100000000000) (hn:n<=100000000000) (hm0:0<m) (hn0:0<n):
  Calls prog 38 #[aE r1,aE r2] w fun e w'=>e= .returned (aE (enc (qOf r1*qOf r2)))/\Below w.heap.size w w':=by
 have C1:=hid (fun w=>cu r1 w (by have:=h1.1;omega) (by have:=h1.2;omega));have C2:=hid (fun w=>cu r2 w (by have:=h2.1;omega) (by have:=h2.2;omega));have DA:=hid (fun w=>ig (qOf r1) w);have DB:=hid (fun w=>ig (qOf r2) w);have hp:=h1.qB hm0;have hq:=h2.qB hn0;generalize qOf r1=p at *
 generalize qOf r2=q at *
 have an:(enc p).num=aj p.num.natAbs:=rfl;have bn:(enc q).num=aj q.num.natAbs:=rfl;have s1:(aj p.num.natAbs).size<=m:=NB.size hp.1;have s2:(aj q.num.natAbs).size<=n:=NB.size hq.1;have s3:(aj p.den).size<=m:=NB.size hp.2;have s4:(aj q.den).size<=n:=NB.size hq.2;have M1:=hid (fun w=>dE (enc p).num (enc q).num w (by rw [an];omega) (by rw [bn];omega));have M2:=hid (fun w=>dE (aj p.den) (aj q.den) w (by omega) (by omega));simp only [an,bn,aH] at M1 M2;simp only [←an,←bn] at M1;have nx:(aj (p.num.natAbs*q.num.natAbs)).size<=m+n:=NB.size (NB.mul hp.1 hq.1);have ny:(aj (p.den*q.den)).size<=m+n:=NB.size (NB.mul hp.2 hq.2);have R:=hid (fun w=>eM (bi p !=bi q) (aj (p.num.natAbs*q.num.natAbs)) (aj (p.den*q.den)) w (by omega) (by omega) (by rw [aH];exact Nat.mul_pos p.den_pos q.den_pos));rw [aH,aH,←zH] at R;have HX:=hid (Bx3.new w r1 r2).drew;rw [show bi p=(enc p).neg from rfl,show bi q=(enc q).neg from rfl] at R;generalize enc (p*q)=c at *
 generalize enc p=a at *
 generalize enc q=b at *
 clear an bn s1 s2 s3 s4 nx ny hp hq h1 h2 hm hn hm0 hn0;unfold aE at C1 C2 DA DB R;unfold aE;go_enter func38,ntmps38
 go_upto_region 1 with fail
 go_cut [5,6,7,8] (fun _ _ _ _ wx=>Bx3 w wx a b)
 case first=>
  go_region_with (first
   |(go_at_call_of 78 (Value.agg #[.bool r1.neg,.string r1.num,.string r1.den]);refine Calls.mono (C1.out _) ?_;rintro e w1 ⟨rfl,hb1⟩;have hx1:=Bx3.next HX.out hb1;obtain ⟨y0,y1,y2,y3,y4⟩:=hx1.2.1.facts)
   |(go_at_call_of 78 (Value.agg #[.bool r2.neg,.string r2.num,.string r2.den]);refine Calls.mono (C2.out _) ?_;rintro e w2 ⟨rfl,hb2⟩;have hx2:=Bx3.next hx1 hb2;clear y0 y1 y2 y3 y4;obtain ⟨t0,t1,t2,t3,t4⟩:=hx2.1.facts;obtain ⟨y0,y1,y2,y3,y4⟩:=hx2.2.1.facts))
  all_goals (go_wp2;go_meet;exact hx2.put2 a b)
 case rest=>
  have hx:=hcut;obtain ⟨z0,z1,z2,z3,z4⟩:=hx.1.facts;obtain ⟨y0,y1,y2,y3,y4⟩:=hx.2.1.facts;clear hcut HX C1 C2;have hne0:w.heap.size≠w.heap.size+1+1:=by omega
  have hne1:¬(w.heap.size+1+1=w.heap.size):=by omega
  go_wp2_with fail
  go_region_held3 (fun w'=>w'.cell? ⟨w.heap.size,0,none⟩=some (.bool a.neg)/\w'.cell? ⟨w.heap.size,1,none⟩=some (.string a.num)/\w'.cell? ⟨w.heap.size,2,none⟩=some (.string a.den)/\w'.cell? ⟨w.heap.size+1,0,none⟩=some (.bool b.neg)/\w'.cell? ⟨w.heap.size+1,1,none⟩=some (.string b.num)/\w'.cell? ⟨w.heap.size+1,2,none⟩=some (.string b.den)) (go_keep)
   (first
    |(go_at_call_of 85 (Value.string a.num);refine Calls.mono (M1.out _) ?_;rintro e wn ⟨rfl,hbn⟩;(first|replace hx:=Bx3.next hx hbn|replace hx:=Bx3.next (Bx3.drew hx) hbn);clear z0 z1 z2 z3 z4 y0 y1 y2 y3 y4;obtain ⟨z0,z1,z2,z3,z4⟩:=hx.1.facts;obtain ⟨y0,y1,y2,y3,y4⟩:=hx.2.1.facts)
    |(go_at_call_of 86 (Value.agg #[.bool a.neg,.string a.num,.string a.den]);refine Calls.mono (DA.out _) ?_;rintro e wn ⟨rfl,hbn⟩;(first|replace hx:=Bx3.next hx hbn|replace hx:=Bx3.next (Bx3.drew hx) hbn);clear z0 z1 z2 z3 z4 y0 y1 y2 y3 y4;obtain ⟨z0,z1,z2,z3,z4⟩:=hx.1.facts;obtain ⟨y0,y1,y2,y3,y4⟩:=hx.2.1.facts)
    |(go_at_call_of 86 (Value.agg #[.bool b.neg,.string b.num,.string b.den]);refine Calls.mono (DB.out _) ?_;rintro e wn ⟨rfl,hbn⟩;(first|replace hx:=Bx3.next hx hbn|replace hx:=Bx3.next (Bx3.drew hx) hbn);clear z0 z1 z2 z3 z4 y0 y1 y2 y3 y4;obtain ⟨z0,z1,z2,z3,z4⟩:=hx.1.facts;obtain ⟨y0,y1,y2,y3,y4⟩:=hx.2.1.facts)
    |(go_at_call_of 85 (Value.string (aj p.den));refine Calls.mono (M2.out _) ?_;rintro e wn ⟨rfl,hbn⟩;(first|replace hx:=Bx3.next hx hbn|replace hx:=Bx3.next (Bx3.drew hx) hbn);clear z0 z1 z2 z3 z4 y0 y1 y2 y3 y4;obtain ⟨z0,z1,z2,z3,z4⟩:=hx.1.facts;obtain ⟨y0,y1,y2,y3,y4⟩:=hx.2.1.facts)
    |(go_at_call 88;refine Calls.mono (R.out _) ?_;rintro e wn ⟨rfl,hbn⟩;(first|replace hx:=Bx3.next hx hbn|replace hx:=Bx3.next (Bx3.drew hx) hbn);clear z0 z1 z2 z3 z4 y0 y1 y2 y3 y4;obtain ⟨z0,z1,z2,z3,z4⟩:=hx.1.facts;obtain ⟨y0,y1,y2,y3,y4⟩:=hx.2.1.facts;obtain ⟨t0,t1,t2,t3,t4⟩:=hx.2.2.1.facts))
  all_goals (go_wp2;refine bo (hx.ret c).1 (fun W' c0 c1 c2=>by simp [results,Tryz.results38,go_sem,c0,c1,c2]) rfl ⟨rfl,(hx.ret c).2⟩)
end Go.Proofs.YtokmkopihhnggaaGreatDoor
