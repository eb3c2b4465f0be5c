/- rational: Valid: walked. -/
import Derived.Test.YtokmkopihhnggaaGreatDoorRef10M
import Derived.Deep.QuietTactic
import Derived.BigQuiet
import Derived.Test.YtokmkopihhnggaaGreatDoorRef4M
import Derived.Test.YtokmkopihhnggaaGreatDoorNumM
import Derived.Deep.RegionHeld3
import Derived.Deep.DeepCutAuto
set_option linter.unusedVariables false
set_option maxHeartbeats 2000000
set_option maxRecDepth 100000
set_option linter.unusedSimpArgs false
namespace Go.Proofs.YtokmkopihhnggaaGreatDoor
open Go.RowKit Go.Proofs.Tryz
theorem cj:aj 1={data:= #[1]}:=by
 unfold aj;rw [fg (by decide)];simp [cP]
theorem pf {s t:ByteArray} (h:s≠t):(s.toList==t.toList)=false:=by
 rw [beq_eq_false_iff_ne];intro e;rw [ByteArray.toList_eq,ByteArray.toList_eq] at e;exact h (ByteArray.ext (Array.ext' e))
theorem gf {s:ByteArray} (h:s≠{data:= #[1]}):(s.toList==[1])=false:=by
 rw [beq_eq_false_iff_ne];intro e;rw [ByteArray.toList_eq] at e;exact h (ByteArray.ext (Array.ext' e))
theorem uX {r:GRat} (c1:aj (ah r.num)≠r.num):cZ r=false:=by simp [cZ,c1]
theorem uY {r:GRat} (c2:aj (ah r.den)≠r.den):cZ r=false:=by simp [cZ,c2]
theorem pg {r:GRat} (c1:aj (ah r.num)=r.num) (c2:aj (ah r.den)=r.den) (h:r.num.size=0):cZ r=(!r.neg&&decide (r.den.size=0)):=by simp [cZ,c1,c2,h]
theorem ph {r:GRat} (c1:aj (ah r.num)=r.num) (c2:aj (ah r.den)=r.den) (h:¬r.num.size=0):cZ r=(decide (r.den.size=0)||(decide (ah r.den≠1)&&decide (Nat.gcd (ah r.num) (ah r.den)=1))):=by simp [cZ,c1,c2,h]
theorem Cl (r:GRat) (w:World) (h1:r.num.size<=500000000000) (c1:aj (ah r.num)≠r.num):
  Calls prog 126 #[aF r] w fun e w'=>e= .returned (.bool false)/\Below w.heap.size w w':=by
 have N1:=hid (fun w=>bJ r.num w (by unfold maxLen;omega));obtain ⟨neg,num,den⟩:=r;simp only at *
 generalize aj (ah num)=s at *
 have e1:=pf c1;unfold aF;simp only;clear c1;go_enter func126,ntmps126
 go_wp2
 go_quiet ((go_at_call 134;exact Calls.quiet_of_same ((N1.out _).mono fun e w' h=>⟨h.1,h.2.symm⟩)))
 go_wp2
 go_ret
 exact ⟨rfl,Below.drewN ((Below.refl _ _).alloc (Nat.le_refl _) _) _⟩
theorem Cm (r:GRat) (w:World) (h1:r.num.size<=500000000000) (h2:r.den.size<=500000000000) (c1:aj (ah r.num)=r.num) (c2:aj (ah r.den)≠r.den):
  Calls prog 126 #[aF r] w fun e w'=>e= .returned (.bool false)/\Below w.heap.size w w':=by
 have N1:=hid (fun w=>bJ r.num w (by unfold maxLen;omega));have N2:=hid (fun w=>bJ r.den w (by unfold maxLen;omega));rw [c1] at N1;obtain ⟨neg,num,den⟩:=r;simp only at *
 generalize aj (ah den)=s at *
 have e1:=pf c2;unfold aF;simp only;clear c1 c2;go_enter func126,ntmps126
 go_wp2
 go_quiet ((first
  |(go_at_call_of 134 (Value.string num);exact Calls.quiet_of_same ((N1.out _).mono fun e w' h=>⟨h.1,h.2.symm⟩))
  |(go_at_call_of 134 (Value.string den);exact Calls.quiet_of_same ((N2.out _).mono fun e w' h=>⟨h.1,h.2.symm⟩))))
 go_wp2
 go_ret
 exact ⟨rfl,Below.drewN ((Below.refl _ _).alloc (Nat.le_refl _) _) _⟩
theorem Cn (r:GRat) (w:World) (h1:r.num.size<=500000000000) (h2:r.den.size<=500000000000) (c1:aj (ah r.num)=r.num) (c2:aj (ah r.den)=r.den) (h:r.num.size=0):
  Calls prog 126 #[aF r] w fun e w'=>e= .returned (.bool (!r.neg&&decide (r.den.size=0)))/\Below w.heap.size w w':=by
 have N1:=hid (fun w=>bJ r.num w (by unfold maxLen;omega));have N2:=hid (fun w=>bJ r.den w (by unfold maxLen;omega));rw [c1] at N1;rw [c2] at N2;obtain ⟨neg,num,den⟩:=r;simp only at *
 have hz:num={data:= #[]}:=ByteArray.ext (Array.eq_empty_of_size_eq_zero h);subst hz;unfold aF;simp only;clear c1 c2 h h1;cases neg
 ·by_cases hd:den.size=0
  ·have hz:den={data:= #[]}:=ByteArray.ext (Array.eq_empty_of_size_eq_zero hd);subst hz;clear hd h2;go_enter func126,ntmps126
   go_wp2
   go_quiet ((go_at_call 134;exact Calls.quiet_of_same ((N1.out _).mono fun e w' h=>⟨h.1,h.2.symm⟩)))
   go_wp2
   go_ret
   exact ⟨rfl,Below.drewN ((Below.refl _ _).alloc (Nat.le_refl _) _) _⟩
  have hne:=dr hd;have HR:=hid (show (!false&&decide (den.size=0))=false by simp [hd]);rw [HR.out];clear hd h2;go_enter func126,ntmps126
  go_wp2
  go_quiet ((first
   |(go_at_call_of 134 (Value.string {data:= #[]});exact Calls.quiet_of_same ((N1.out _).mono fun e w' h=>⟨h.1,h.2.symm⟩))
   |(go_at_call_of 134 (Value.string den);exact Calls.quiet_of_same ((N2.out _).mono fun e w' h=>⟨h.1,h.2.symm⟩))))
  go_wp2
  go_ret
  exact ⟨rfl,Below.drewN ((Below.refl _ _).alloc (Nat.le_refl _) _) _⟩
 have HR:=hid (show (!true&&decide (den.size=0))=false by simp);rw [HR.out];clear h2;go_enter func126,ntmps126
 go_wp2
 go_quiet ((first
  |(go_at_call_of 134 (Value.string {data:= #[]});exact Calls.quiet_of_same ((N1.out _).mono fun e w' h=>⟨h.1,h.2.symm⟩))
  |(go_at_call_of 134 (Value.string den);exact Calls.quiet_of_same ((N2.out _).mono fun e w' h=>⟨h.1,h.2.symm⟩))))
 go_wp2
 go_ret
 exact ⟨rfl,Below.drewN ((Below.refl _ _).alloc (Nat.le_refl _) _) _⟩
theorem jg:∀(l r:List UInt8),l.length=r.length->Lib.compareBytes l r=bp (a6 l) (a6 r)
 |[],[],_=>by simp [Lib.compareBytes,bp,a6]
 |[],_::_,h=>by simp at h
 |_::_,[],h=>by simp at h
 |a::l,b::r,h=>by
  have hl:l.length=r.length:=by simpa using h
  have ih:=jg l r hl;have h1:=fL l;have h2:=fL r;simp only [Lib.compareBytes];rw [ih,eG,eG,hl];rw [hl] at h1;have ha:(a<b)↔a.toNat<b.toNat:=UInt8.lt_iff_toNat_lt;have hb:(b<a)↔b.toNat<a.toNat:=UInt8.lt_iff_toNat_lt;generalize 256^r.length=P at *
  generalize a6 l=x at *
  generalize a6 r=y at *
  by_cases c1:a.toNat<b.toNat
  ·rw [if_pos (ha.2 c1)];have:=Nat.mul_le_mul_right P (show a.toNat+1<=b.toNat from c1);rw [Nat.add_mul] at this;unfold bp;rw [if_pos (by omega)]
  rw [if_neg (fun h=>c1 (ha.1 h))];by_cases c2:b.toNat<a.toNat
  ·rw [if_pos (hb.2 c2)];have:=Nat.mul_le_mul_right P (show b.toNat+1<=a.toNat from c2);rw [Nat.add_mul] at this;unfold bp;rw [if_neg (by omega),if_pos (by omega)]
  rw [if_neg (fun h=>c2 (hb.1 h))];have:a.toNat=b.toNat:=by omega
  rw [this];generalize b.toNat*P=q;unfold bp;simp only [Nat.add_lt_add_iff_left]
theorem pi {x y:Nat} (h:(aj x).size=(aj y).size):Lib.compareBytes (aj x).data.toList (aj y).data.toList=bp x y:=by
 rw [bK,bK] at h;have:=jg (bG x) (bG y) h;rw [dX,dX] at this;simpa [aj] using this
theorem ib {x y:Nat} (h:x<=y):(bG x).length<=(bG y).length:=bk (Nat.lt_of_le_of_lt h (jt y))
theorem uZ {x y:Nat} (h:(aj x).size≠(aj y).size):ip (((aj x).size:Int)-((aj y).size:Int))=bp x y:=by
 rw [bK,bK] at *
 unfold ip bp;by_cases c:x<y
 ·have:=ib (Nat.le_of_lt c);rw [if_pos c,if_pos (by omega)]
 have:=ib (Nat.le_of_not_lt c);rw [if_neg c,if_neg (by omega)];by_cases d:y<x
 ·rw [if_pos d];try rw [if_pos (by omega)]
 exfalso;have:x=y:=by omega
 subst this;exact h rfl
theorem dH (s:ByteArray):(aj (ah s)).size<=s.size:=by rw [bK];exact bk (dw s)
theorem u0 (a b:ByteArray) (w:World) (ha:a.size<=maxLen) (hb:b.size<=maxLen):
  Calls prog 84 #[.string a,.string b] w fun e w'=>e= .returned (.int .i64 (bp (ah a) (ah b)))/\w=w':=by
 have H1:=hid (bJ a w ha);have H2:=hid (bJ b w hb);have sa:=dH a;have sb:=dH b;have hmx:(maxLen:Nat)<=9223372036854775807:=by unfold maxLen;omega
 have hsa:(aj (ah a)).size<=9223372036854775807:=by omega
 have hsb:(aj (ah b)).size<=9223372036854775807:=by omega
 by_cases h:(aj (ah a)).size=(aj (ah b)).size
 ·have HC:=hid (Tryz.strings_Compare (aj (ah a)) (aj (ah b)) w);rw [pi h] at HC;generalize bp (ah a) (ah b)=c at *
  generalize aj (ah a)=x at *
  generalize aj (ah b)=y at *
  have hxy:¬((x.size:Int)≠(y.size:Int)):=by omega
  clear sa sb ha hb hmx;go_enter func84,ntmps84
  go_wp2_with fail
  refine Calls.mono H1.out ?_;rintro e w1 ⟨rfl,rfl⟩;go_wp2_with fail
  refine Calls.mono H2.out ?_;rintro e w1 ⟨rfl,rfl⟩;go_wp2_with fail
  refine Calls.mono HC.out ?_;rintro e w1 ⟨rfl,rfl⟩;go_wp2
  go_ret
  exact ⟨rfl,rfl⟩
 have HC:=hid (oT (((aj (ah a)).size:Int)-((aj (ah b)).size:Int)) w);rw [uZ h] at HC;generalize bp (ah a) (ah b)=c at *
 generalize aj (ah a)=x at *
 generalize aj (ah b)=y at *
 have hxy:((x.size:Int)≠(y.size:Int)):=by omega
 clear sa sb ha hb hmx h;go_enter func84,ntmps84
 go_wp2_with fail
 refine Calls.mono H1.out ?_;rintro e w1 ⟨rfl,rfl⟩;go_wp2_with fail
 refine Calls.mono H2.out ?_;rintro e w1 ⟨rfl,rfl⟩;go_wp2_with fail
 refine Calls.mono HC.out ?_;rintro e w1 ⟨rfl,rfl⟩;go_wp2
 go_ret
 exact ⟨rfl,rfl⟩
theorem gE {n:Nat} (h:n≠1):aj n≠{data:= #[1]}:=by
 intro e;rw [←cj] at e;exact h (li e)
theorem Co (r:GRat) (w:World) (h1:r.num.size<=500000000000) (h2:r.den.size<=500000000000) (c1:aj (ah r.num)=r.num) (c2:aj (ah r.den)=r.den) (h:¬r.num.size=0):
  Calls prog 126 #[aF r] w fun e w'=>e= .returned (.bool (decide (r.den.size=0)||(decide (ah r.den≠1)&&decide (Nat.gcd (ah r.num) (ah r.den)=1))))/\Below w.heap.size w w':=by
 have N1:=hid (fun w=>bJ r.num w (by unfold maxLen;omega));have N2:=hid (fun w=>bJ r.den w (by unfold maxLen;omega));rw [c1] at N1;rw [c2] at N2;have G:=hid (fun w=>yV r.num r.den w h1 h2);obtain ⟨neg,num,den⟩:=r;simp only at *
 have hne:=dr h;unfold aF;simp only;by_cases hd:den.size=0
 ·have hz:den={data:= #[]}:=ByteArray.ext (Array.eq_empty_of_size_eq_zero hd);subst hz;clear hd h2 c1 c2 h h1 G;go_enter func126,ntmps126
  go_wp2
  go_quiet ((first
   |(go_at_call_of 134 (Value.string num);exact Calls.quiet_of_same ((N1.out _).mono fun e w' h=>⟨h.1,h.2.symm⟩))
   |(go_at_call_of 134 (Value.string {data:= #[]});exact Calls.quiet_of_same ((N2.out _).mono fun e w' h=>⟨h.1,h.2.symm⟩))))
  go_wp2
  go_ret
  exact ⟨rfl,Below.drewN ((Below.refl _ _).alloc (Nat.le_refl _) _) _⟩
 have hne2:=dr hd;by_cases ho:ah den=1
 ·rw [ho,cj] at c2;subst c2;have HR:=hid (show (decide (({data:= #[1]}:ByteArray).size=0)||(decide (ah {data:= #[1]}≠1)&&decide (Nat.gcd (ah num) (ah {data:= #[1]})=1)))=false by rw [ho];simp only [ne_eq,not_true,decide_false,Bool.false_and,Bool.or_false];exact decide_eq_false hd);rw [HR.out];clear hd h2 c1 h h1 G ho hne2;go_enter func126,ntmps126
  go_wp2
  go_quiet ((first
   |(go_at_call_of 134 (Value.string num);exact Calls.quiet_of_same ((N1.out _).mono fun e w' h=>⟨h.1,h.2.symm⟩))
   |(go_at_call_of 134 (Value.string {data:= #[1]});exact Calls.quiet_of_same ((N2.out _).mono fun e w' h=>⟨h.1,h.2.symm⟩))))
  go_wp2
  go_ret
  exact ⟨rfl,Below.drewN ((Below.refl _ _).alloc (Nat.le_refl _) _) _⟩
 have hn1:=gf (s:=den) (fun e=>ho (by rw [e,←cj];exact aE 1));by_cases hg:Nat.gcd (ah num) (ah den)=1
 ·rw [hg,cj] at G;have HR:=hid (show (decide (den.size=0)||(decide (ah den≠1)&&decide (Nat.gcd (ah num) (ah den)=1)))=true by simp [ho,hg]);rw [HR.out];clear hd h2 c1 c2 h h1 ho hg;go_enter func126,ntmps126
  go_wp2
  go_quiet ((first
   |(go_at_call_of 134 (Value.string num);exact Calls.quiet_of_same ((N1.out _).mono fun e w' h=>⟨h.1,h.2.symm⟩))
   |(go_at_call_of 134 (Value.string den);exact Calls.quiet_of_same ((N2.out _).mono fun e w' h=>⟨h.1,h.2.symm⟩))))
  go_wp2_with fail
  refine Calls.mono (G.out _) ?_;rintro e w1 ⟨rfl,hb1⟩;go_wp2
  go_ret
  exact ⟨rfl,Below.step (Below.drewN ((Below.refl _ _).alloc (Nat.le_refl _) _) _) hb1⟩
 have hn3:=gf (gE hg);have HR:=hid (show (decide (den.size=0)||(decide (ah den≠1)&&decide (Nat.gcd (ah num) (ah den)=1)))=false by simp [hd,hg]);rw [HR.out];generalize aj (Nat.gcd (ah num) (ah den))=gs at *
 clear hd h2 c1 c2 h h1 ho hg HR;go_enter func126,ntmps126
 go_wp2
 go_quiet ((first
  |(go_at_call_of 134 (Value.string num);exact Calls.quiet_of_same ((N1.out _).mono fun e w' h=>⟨h.1,h.2.symm⟩))
  |(go_at_call_of 134 (Value.string den);exact Calls.quiet_of_same ((N2.out _).mono fun e w' h=>⟨h.1,h.2.symm⟩))))
 go_wp2_with fail
 refine Calls.mono (G.out _) ?_;rintro e w1 ⟨rfl,hb1⟩;go_wp2
 go_ret
 exact ⟨rfl,Below.step (Below.drewN ((Below.refl _ _).alloc (Nat.le_refl _) _) _) hb1⟩
theorem xz (r:GRat) (w:World) (h1:r.num.size<=500000000000) (h2:r.den.size<=500000000000):
  Calls prog 126 #[aF r] w fun e w'=>e= .returned (.bool (cZ r))/\Below w.heap.size w w':=by
 by_cases c1:aj (ah r.num)=r.num
 ·by_cases c2:aj (ah r.den)=r.den
  ·by_cases h:r.num.size=0
   ·rw [pg c1 c2 h];exact Cn r w h1 h2 c1 c2 h
   rw [ph c1 c2 h];exact Co r w h1 h2 c1 c2 h
  rw [uY c2];exact Cm r w h1 h2 c1 c2
 rw [uX c1];exact Cl r w h1 c1
theorem ck (r:GRat) (w:World) (h1:r.num.size<=500000000000) (h2:r.den.size<=500000000000):
  Calls prog 78 #[aF r] w fun e w'=>e= .returned (aF (enc (qOf r)))/\Below w.heap.size w w':=by
 have V:=hid (fun w=>xz r w h1 h2);have hx0:=hid (Bx2.new w r gZ);clear h1 h2;by_cases h:cZ r=true
 ·rw [xv h];rw [h] at V;unfold aF;clear h;go_enter func78,ntmps78
  go_wp2_with fail
  refine Calls.mono (V.out _) ?_;rintro e w1 ⟨rfl,hb1⟩;have hx1:=hx0.out.next hb1;obtain ⟨x0,x1,x2,x3,x4⟩:=hx1.1.facts;obtain ⟨t0,t1,t2,t3,t4⟩:=hx1.2.1.facts;go_wp2
  refine bw (hx1.ret _).1 (fun W' c0 c1 c2=>by simp [results,Tryz.results78,go_sem,c0,c1,c2]) rfl ⟨rfl,(hx1.ret _).2⟩
 have h':cZ r=false:=by simpa using h
 rw [th h',←fZ];rw [h'] at V;unfold aF;clear h h';go_enter func78,ntmps78
 go_wp2_with fail
 refine Calls.mono (V.out _) ?_;rintro e w1 ⟨rfl,hb1⟩;have hx1:=hx0.out.next hb1;obtain ⟨t0,t1,t2,t3,t4⟩:=hx1.2.1.facts;go_wp2
 refine bw (hx1.ret gZ).1 (fun W' c0 c1 c2=>by simp [results,Tryz.results78,go_sem,c0,c1,c2]) rfl ⟨rfl,(hx1.ret gZ).2⟩
theorem Cp (r:GRat) (w:World) (h1:r.num.size<=500000000000) (c1:aj (ah r.num)≠r.num):
  Calls prog 156 #[aF r] w fun e w'=>e= .returned (.bool false)/\Below w.heap.size w w':=by
 have N1:=hid (fun w=>bN r.num w (by unfold maxLen;omega));obtain ⟨neg,num,den⟩:=r;simp only at *
 generalize aj (ah num)=s at *
 have e1:=pf c1;unfold aF;simp only;clear c1;go_enter func156,ntmps156
 go_wp2
 go_quiet ((go_at_call 192;exact Calls.quiet_of_same ((N1.out _).mono fun e w' h=>⟨h.1,h.2.symm⟩)))
 go_wp2
 go_ret
 exact ⟨rfl,Below.drewN ((Below.refl _ _).alloc (Nat.le_refl _) _) _⟩
theorem Cq (r:GRat) (w:World) (h1:r.num.size<=500000000000) (h2:r.den.size<=500000000000) (c1:aj (ah r.num)=r.num) (c2:aj (ah r.den)≠r.den):
  Calls prog 156 #[aF r] w fun e w'=>e= .returned (.bool false)/\Below w.heap.size w w':=by
 have N1:=hid (fun w=>bN r.num w (by unfold maxLen;omega));have N2:=hid (fun w=>bN r.den w (by unfold maxLen;omega));rw [c1] at N1;obtain ⟨neg,num,den⟩:=r;simp only at *
 generalize aj (ah den)=s at *
 have e1:=pf c2;unfold aF;simp only;clear c1 c2;go_enter func156,ntmps156
 go_wp2
 go_quiet ((first
  |(go_at_call_of 192 (Value.string num);exact Calls.quiet_of_same ((N1.out _).mono fun e w' h=>⟨h.1,h.2.symm⟩))
  |(go_at_call_of 192 (Value.string den);exact Calls.quiet_of_same ((N2.out _).mono fun e w' h=>⟨h.1,h.2.symm⟩))))
 go_wp2
 go_ret
 exact ⟨rfl,Below.drewN ((Below.refl _ _).alloc (Nat.le_refl _) _) _⟩
theorem Cr (r:GRat) (w:World) (h1:r.num.size<=500000000000) (h2:r.den.size<=500000000000) (c1:aj (ah r.num)=r.num) (c2:aj (ah r.den)=r.den) (h:r.num.size=0) (ho:ah r.den≠1):
  Calls prog 156 #[aF r] w fun e w'=>e= .returned (.bool (!r.neg&&decide (r.den.size=0)))/\Below w.heap.size w w':=by
 have N1:=hid (fun w=>bN r.num w (by unfold maxLen;omega));have N2:=hid (fun w=>bN r.den w (by unfold maxLen;omega));rw [c1] at N1;rw [c2] at N2;obtain ⟨neg,num,den⟩:=r;simp only at *
 have hz:num={data:= #[]}:=ByteArray.ext (Array.eq_empty_of_size_eq_zero h);subst hz;unfold aF;simp only;clear c1 c2 h h1;cases neg
 ·by_cases hd:den.size=0
  ·have hz:den={data:= #[]}:=ByteArray.ext (Array.eq_empty_of_size_eq_zero hd);subst hz;clear hd h2 ho;have hn1:((({data:= #[]}:ByteArray).toList)==[1])=false:=by rw [ByteArray.toList_eq];rfl
   go_enter func156,ntmps156
   go_wp2
   go_quiet ((go_at_call 192;exact Calls.quiet_of_same ((N1.out _).mono fun e w' h=>⟨h.1,h.2.symm⟩)))
   go_wp2
   go_ret
   exact ⟨rfl,Below.drewN ((Below.refl _ _).alloc (Nat.le_refl _) _) _⟩
  have hne:=dr hd;have HR:=hid (show (!false&&decide (den.size=0))=false by simp [hd]);rw [HR.out];have hn1:=gf (s:=den) (fun e=>ho (by rw [e,←cj];exact aE 1));clear hd h2 ho;go_enter func156,ntmps156
  go_wp2
  go_quiet ((first
   |(go_at_call_of 192 (Value.string {data:= #[]});exact Calls.quiet_of_same ((N1.out _).mono fun e w' h=>⟨h.1,h.2.symm⟩))
   |(go_at_call_of 192 (Value.string den);exact Calls.quiet_of_same ((N2.out _).mono fun e w' h=>⟨h.1,h.2.symm⟩))))
  go_wp2
  go_ret
  exact ⟨rfl,Below.drewN ((Below.refl _ _).alloc (Nat.le_refl _) _) _⟩
 have HR:=hid (show (!true&&decide (den.size=0))=false by simp);rw [HR.out];have hn1:=gf (s:=den) (fun e=>ho (by rw [e,←cj];exact aE 1));clear h2 ho;go_enter func156,ntmps156
 go_wp2
 go_quiet ((first
  |(go_at_call_of 192 (Value.string {data:= #[]});exact Calls.quiet_of_same ((N1.out _).mono fun e w' h=>⟨h.1,h.2.symm⟩))
  |(go_at_call_of 192 (Value.string den);exact Calls.quiet_of_same ((N2.out _).mono fun e w' h=>⟨h.1,h.2.symm⟩))))
 go_wp2
 go_ret
 exact ⟨rfl,Below.drewN ((Below.refl _ _).alloc (Nat.le_refl _) _) _⟩
theorem Cs (r:GRat) (w:World) (h1:r.num.size<=500000000000) (h2:r.den.size<=500000000000) (c1:aj (ah r.num)=r.num) (c2:aj (ah r.den)=r.den) (ho:ah r.den=1):
  Calls prog 156 #[aF r] w fun e w'=>e= .returned (.bool false)/\Below w.heap.size w w':=by
 have N1:=hid (fun w=>bN r.num w (by unfold maxLen;omega));have N2:=hid (fun w=>bN r.den w (by unfold maxLen;omega));rw [c1] at N1;rw [c2] at N2;obtain ⟨neg,num,den⟩:=r;simp only at *
 rw [ho,cj] at c2;subst c2;unfold aF;simp only;clear c1 h1 h2 ho;go_enter func156,ntmps156
 go_wp2
 go_quiet ((first
  |(go_at_call_of 192 (Value.string num);exact Calls.quiet_of_same ((N1.out _).mono fun e w' h=>⟨h.1,h.2.symm⟩))
  |(go_at_call_of 192 (Value.string {data:= #[1]});exact Calls.quiet_of_same ((N2.out _).mono fun e w' h=>⟨h.1,h.2.symm⟩))))
 go_wp2
 go_ret
 exact ⟨rfl,Below.drewN ((Below.refl _ _).alloc (Nat.le_refl _) _) _⟩
theorem Ct (r:GRat) (w:World) (h1:r.num.size<=500000000000) (h2:r.den.size<=500000000000) (c1:aj (ah r.num)=r.num) (c2:aj (ah r.den)=r.den) (h:¬r.num.size=0) (ho:ah r.den≠1):
  Calls prog 156 #[aF r] w fun e w'=>e= .returned (.bool (decide (r.den.size=0)||(decide (ah r.den≠1)&&decide (Nat.gcd (ah r.num) (ah r.den)=1))))/\Below w.heap.size w w':=by
 have N1:=hid (fun w=>bN r.num w (by unfold maxLen;omega));have N2:=hid (fun w=>bN r.den w (by unfold maxLen;omega));rw [c1] at N1;rw [c2] at N2;have G:=hid (fun w=>Ch r.num r.den w h1 h2);obtain ⟨neg,num,den⟩:=r;simp only at *
 have hne:=dr h;unfold aF;simp only;by_cases hd:den.size=0
 ·have hz:den={data:= #[]}:=ByteArray.ext (Array.eq_empty_of_size_eq_zero hd);subst hz;clear hd h2 c1 c2 h h1 G ho;have hn1:((({data:= #[]}:ByteArray).toList)==[1])=false:=by rw [ByteArray.toList_eq];rfl
  go_enter func156,ntmps156
  go_wp2
  go_quiet ((first
   |(go_at_call_of 192 (Value.string num);exact Calls.quiet_of_same ((N1.out _).mono fun e w' h=>⟨h.1,h.2.symm⟩))
   |(go_at_call_of 192 (Value.string {data:= #[]});exact Calls.quiet_of_same ((N2.out _).mono fun e w' h=>⟨h.1,h.2.symm⟩))))
  go_wp2
  go_ret
  exact ⟨rfl,Below.drewN ((Below.refl _ _).alloc (Nat.le_refl _) _) _⟩
 have hne2:=dr hd;have hn1:=gf (s:=den) (fun e=>ho (by rw [e,←cj];exact aE 1));by_cases hg:Nat.gcd (ah num) (ah den)=1
 ·rw [hg,cj] at G;have HR:=hid (show (decide (den.size=0)||(decide (ah den≠1)&&decide (Nat.gcd (ah num) (ah den)=1)))=true by simp [ho,hg]);rw [HR.out];clear hd h2 c1 c2 h h1 ho hg;go_enter func156,ntmps156
  go_wp2
  go_quiet ((first
   |(go_at_call_of 192 (Value.string num);exact Calls.quiet_of_same ((N1.out _).mono fun e w' h=>⟨h.1,h.2.symm⟩))
   |(go_at_call_of 192 (Value.string den);exact Calls.quiet_of_same ((N2.out _).mono fun e w' h=>⟨h.1,h.2.symm⟩))))
  go_wp2_with fail
  refine Calls.mono (G.out _) ?_;rintro e w1 ⟨rfl,hb1⟩;go_wp2
  go_ret
  exact ⟨rfl,Below.step (Below.drewN ((Below.refl _ _).alloc (Nat.le_refl _) _) _) hb1⟩
 have hn3:=gf (gE hg);have HR:=hid (show (decide (den.size=0)||(decide (ah den≠1)&&decide (Nat.gcd (ah num) (ah den)=1)))=false by simp [hd,hg]);rw [HR.out];generalize aj (Nat.gcd (ah num) (ah den))=gs at *
 clear hd h2 c1 c2 h h1 ho hg HR;go_enter func156,ntmps156
 go_wp2
 go_quiet ((first
  |(go_at_call_of 192 (Value.string num);exact Calls.quiet_of_same ((N1.out _).mono fun e w' h=>⟨h.1,h.2.symm⟩))
  |(go_at_call_of 192 (Value.string den);exact Calls.quiet_of_same ((N2.out _).mono fun e w' h=>⟨h.1,h.2.symm⟩))))
 go_wp2_with fail
 refine Calls.mono (G.out _) ?_;rintro e w1 ⟨rfl,hb1⟩;go_wp2
 go_ret
 exact ⟨rfl,Below.step (Below.drewN ((Below.refl _ _).alloc (Nat.le_refl _) _) _) hb1⟩
theorem xA (r:GRat) (w:World) (h1:r.num.size<=500000000000) (h2:r.den.size<=500000000000):
  Calls prog 156 #[aF r] w fun e w'=>e= .returned (.bool (cZ r))/\Below w.heap.size w w':=by
 by_cases c1:aj (ah r.num)=r.num
 ·by_cases c2:aj (ah r.den)=r.den
  ·by_cases ho:ah r.den=1
   ·have hd:¬r.den.size=0:=fun h=>by rw [o8 h] at ho;cases ho
    have hf:cZ r=false:=by
     by_cases h:r.num.size=0
     ·rw [pg c1 c2 h];simp [hd]
     rw [ph c1 c2 h];simp [hd,ho]
    rw [hf];exact Cs r w h1 h2 c1 c2 ho
   by_cases h:r.num.size=0
   ·rw [pg c1 c2 h];exact Cr r w h1 h2 c1 c2 h ho
   rw [ph c1 c2 h];exact Ct r w h1 h2 c1 c2 h ho
  rw [uY c2];exact Cq r w h1 h2 c1 c2
 rw [uX c1];exact Cp r w h1 c1
theorem pj (r:GRat) (w:World) (h1:r.num.size<=500000000000) (h2:r.den.size<=500000000000):
  Calls prog 116 #[aF r] w fun e w'=>e= .returned (aF (enc (qOf r)))/\Below w.heap.size w w':=by
 have V:=hid (fun w=>xA r w h1 h2);have hx0:=hid (Bx2.new w r gZ);clear h1 h2;by_cases h:cZ r=true
 ·rw [xv h];rw [h] at V;unfold aF;clear h;go_enter func116,ntmps116
  go_wp2_with fail
  refine Calls.mono (V.out _) ?_;rintro e w1 ⟨rfl,hb1⟩;have hx1:=hx0.out.next hb1;obtain ⟨x0,x1,x2,x3,x4⟩:=hx1.1.facts;obtain ⟨t0,t1,t2,t3,t4⟩:=hx1.2.1.facts;go_wp2
  refine bw (hx1.ret _).1 (fun W' c0 c1 c2=>by simp [results,Tryz.results116,go_sem,c0,c1,c2]) rfl ⟨rfl,(hx1.ret _).2⟩
 have h':cZ r=false:=by simpa using h
 rw [th h',←fZ];rw [h'] at V;unfold aF;clear h h';go_enter func116,ntmps116
 go_wp2_with fail
 refine Calls.mono (V.out _) ?_;rintro e w1 ⟨rfl,hb1⟩;have hx1:=hx0.out.next hb1;obtain ⟨t0,t1,t2,t3,t4⟩:=hx1.2.1.facts;go_wp2
 refine bw (hx1.ret gZ).1 (fun W' c0 c1 c2=>by simp [results,Tryz.results116,go_sem,c0,c1,c2]) rfl ⟨rfl,(hx1.ret gZ).2⟩
theorem gF (q:Rat) (w:World):Calls prog 86 #[aF (enc q)] w fun e w'=>e= .returned (.string (aj q.den))/\Below w.heap.size w w':=by
 by_cases h:q.den=1
 ·have e1:(enc q).den={data:= #[]}:=by unfold enc;simp only [h,if_true];rfl
  rw [h,cj];unfold aF;rw [e1];generalize enc q=a at *
  clear h e1;go_enter func86,ntmps86
  go_wp2
  go_ret
  exact ⟨rfl,(Below.refl _ _).alloc (Nat.le_refl _) _⟩
 have e1:(enc q).den=aj q.den:=by unfold enc;simp only [h,if_false]
 have hne:=dr (gi q.den_nz);unfold aF;rw [e1];generalize aj q.den=d at *
 generalize enc q=a at *
 clear h e1;go_enter func86,ntmps86
 go_wp2
 go_ret
 exact ⟨rfl,(Below.refl _ _).alloc (Nat.le_refl _) _⟩
theorem jy (r:GRat) (w:World):Calls prog 83 #[aF r] w fun e w'=>e= .returned (.int .i64 (jv r))/\Below w.heap.size w w':=by
 unfold aF;by_cases h:r.num.size=0
 ·have hz:r.num={data:= #[]}:=ByteArray.ext (Array.eq_empty_of_size_eq_zero h);have hR:=hid (show jv r=0 by unfold jv;rw [if_pos h]);rw [hz];clear h hz;go_enter func83,ntmps83
  go_wp2
  go_ret
  exact ⟨bQ hR.out.symm,(Below.refl _ _).alloc (Nat.le_refl _) _⟩
 have hz:=dr h;cases hn:r.neg with
 |true=>
  have hR:=hid (show jv r= -1 by unfold jv;rw [if_neg h,if_pos hn]);clear h hn;go_enter func83,ntmps83
  go_wp2
  go_ret
  exact ⟨bQ hR.out.symm,(Below.refl _ _).alloc (Nat.le_refl _) _⟩
 |false=>
  have hR:=hid (show jv r=1 by unfold jv;rw [if_neg h,if_neg (by rw [hn];decide)]);clear h hn;go_enter func83,ntmps83
  go_wp2
  go_ret
  exact ⟨bQ hR.out.symm,(Below.refl _ _).alloc (Nat.le_refl _) _⟩
theorem u6 (r:GRat) (w:World) (hv:r.num.size=0->r.neg=false):Calls prog 89 #[aF r] w fun e w'=>e= .returned (aF (o7 r))/\Below w.heap.size w w':=by
 by_cases h:r.num.size=0
 ·have hz:r.num={data:= #[]}:=ByteArray.ext (Array.eq_empty_of_size_eq_zero h);have hn:=hv h;have hR:=hid (show o7 r=r by unfold o7;rw [if_pos h]);rw [hR.out];unfold aF;rw [hz,hn];clear h hz hn hv;go_enter func89,ntmps89
  go_wp2
  go_returns
  exact ⟨rfl,((Below.refl _ _).alloc (Nat.le_refl _) _).alloc (by simp) _⟩
 have hz:=dr h;have hR:=hid (show o7 r=⟨!r.neg,r.num,r.den⟩ by unfold o7;rw [if_neg h]);rw [hR.out];unfold aF;clear h hv;cases hn:r.neg
 ·clear hn;go_enter func89,ntmps89
  go_wp2
  go_returns
  exact ⟨rfl,((Below.refl _ _).alloc (Nat.le_refl _) _).alloc (by simp) _⟩
 clear hn;go_enter func89,ntmps89
 go_wp2
 go_returns
 exact ⟨rfl,((Below.refl _ _).alloc (Nat.le_refl _) _).alloc (by simp) _⟩
theorem pk (n:Int) (w:World) (h0: -9223372036854775808<=n) (h1:n<=9223372036854775807):Calls prog 104 #[.int .i64 n] w fun e w'=>e= .returned (.string (aj n.natAbs))/\Below w.heap.size w w':=by
 have F:=hid (fun w=>ta n.natAbs w (by omega));by_cases h:n<0
 ·have e1:IntKind.u64.wrap (-(IntKind.u64.wrap n))=(n.natAbs:Int):=by rw [IntKind.wrap_u64,IntKind.wrap_u64];omega
  go_enter func104,ntmps104
  go_wp2_with fail
  refine Calls.mono (F.out _) ?_;rintro e w1 ⟨rfl,hb1⟩;go_wp2
  go_ret
  exact ⟨rfl,hb1⟩
 have e1:n=(n.natAbs:Int):=by omega
 have F2:=hid (fun w=>F.out w);rw [←e1] at F2;clear F e1;go_enter func104,ntmps104
 go_wp2_with fail
 refine Calls.mono (F2.out _) ?_;rintro e w1 ⟨rfl,hb1⟩;go_wp2
 go_ret
 exact ⟨rfl,hb1⟩
theorem Cu:aj 0={data:= #[]}:=gA
theorem rK {P:Program} {fn:Func} {R:Ending->World->Prop} {a:Act} {W:World} {b T:Nat} {x y z:Value} {t:Bool} (h:Blk3 W b T x y z)
  (hres:∀W',W'.cell? ⟨b,0,none⟩=some x->W'.cell? ⟨b,1,none⟩=some y->W'.cell? ⟨b,2,none⟩=some z->(results fn a.tmps).run P W'= .ok (.tuple #[.agg #[x,y,z],.bool t]) W') (hd:a.defers=[]) (hR:R (.returned (.tuple #[.agg #[x,y,z],.bool t])) W):bodyPost P fn R .ret a W:=
 bodyPost_ret (hres W h.cells.1 h.cells.2.1 h.cells.2.2.1) hd hR
theorem ez (neg:Bool) (a b:ByteArray) (w:World) (ha:a.size<=400000000000) (hb:b.size<=400000000000) (hd:0<ah b):
  Calls prog 88 #[.bool neg,.string a,.string b] w fun e w'=>e= .returned (aF (enc (mkRat (sg neg (ah a)) (ah b))))/\Below w.heap.size w w':=by
 have N1:=hid (fun w=>bJ a w (by unfold maxLen;omega));have N2:=hid (fun w=>bJ b w (by unfold maxLen;omega));have sa:=dH a;have sb:=dH b;have hx0:=hid (Bx1.new w);generalize ah a=N at *
 generalize ah b=D at *
 by_cases hN:N=0
 ·subst hN;rw [yO,Rat.zero_mkRat,←fZ];rw [Cu] at N1;unfold aF;clear ha hb sa sb hd;generalize aj D=d at *
  go_enter func88,ntmps88
  go_wp2_with fail
  refine Calls.mono (N1.out _) ?_;rintro e w1 ⟨rfl,rfl⟩;go_wp2_with fail
  refine Calls.mono (N2.out _) ?_;rintro e w1 ⟨rfl,rfl⟩;go_wp2
  go_returns
  exact ⟨rfl,(Below.refl _ _).alloc (Nat.le_refl _) _⟩
 have hE:=rA (neg:=neg) (n:=N) (d:=D) hN (by omega);rw [hE];unfold aF;simp only;have hn1:=dr (gi hN);obtain ⟨g,hg⟩:∃g,g=Nat.gcd N D:=⟨_,rfl⟩;have hg0:0<g:=by rw [hg];exact Nat.gcd_pos_of_pos_right _ hd
 have G:=hid (fun w=>yV (aj N) (aj D) w (by omega) (by omega));simp only [aE] at G;rw [←hg] at G ⊢;have sg':(aj g).size<=500000000000:=by
  have:(aj g).size<=(aj N).size:=by
   rw [bK,bK];exact ib (by rw [hg];exact Nat.gcd_le_left _ (by omega))
  omega
 have D1:=hid (fun w=>rH (aj N) (aj g) w (by omega) sg' (by rw [aE];exact hg0));have D2:=hid (fun w=>rH (aj D) (aj g) w (by omega) sg' (by rw [aE];exact hg0));simp only [aE] at D1 D2;by_cases hD:D=1
 ·subst hD;have hg1:g=1:=by rw [hg];exact Nat.gcd_one_right N
  subst hg1;have HR:=hid (show aj (N/1)=aj N/\(if 1/1=1 then ay else aj (1/1))=({data:= #[]}:ByteArray) from ⟨by rw [Nat.div_one],rfl⟩);rw [HR.out.1,HR.out.2];rw [cj] at N2;generalize aj N=n at *
  clear G D1 D2 hE hg hg0 hd sa sb sg' ha hb hN HR;go_enter func88,ntmps88
  go_wp2_with fail
  refine Calls.mono (N1.out _) ?_;rintro e w1 ⟨rfl,rfl⟩;go_wp2_with fail
  refine Calls.mono (N2.out _) ?_;rintro e w1 ⟨rfl,rfl⟩;go_wp2
  go_returns
  exact ⟨rfl,(Below.refl _ _).alloc (Nat.le_refl _) _⟩
 have hd1:=gf (gE hD);by_cases hg1:g=1
 ·have HR:=hid (show aj (N/g)=aj N/\(if D/g=1 then ay else aj (D/g))=aj D from ⟨by rw [hg1,Nat.div_one],by rw [hg1,Nat.div_one,if_neg hD]⟩);rw [HR.out.1,HR.out.2];rw [hg1,cj] at G;generalize aj N=n at *
  generalize aj D=d at *
  clear D1 D2 hE hg hg0 hd sa sb sg' ha hb hN HR hD hg1;go_enter func88,ntmps88
  go_wp2_with fail
  refine Calls.mono (N1.out _) ?_;rintro e w1 ⟨rfl,rfl⟩;go_wp2_with fail
  refine Calls.mono (N2.out _) ?_;rintro e w1 ⟨rfl,rfl⟩;go_wp2_with fail
  refine Calls.mono (G.out _) ?_;rintro e w1 ⟨rfl,hb1⟩;have hx1:=hx0.out.next hb1;obtain ⟨x0,x1,x2,x3,x4⟩:=hx1.1.facts;go_wp2
  have S:=hx1.ret ⟨neg,n,d⟩;dsimp only at S;refine bw S.1 (fun W' c0 c1 c2=>by simp [results,Tryz.results88,go_sem,c0,c1,c2]) rfl ⟨rfl,S.2⟩
 have hgs:=gf (gE hg1);obtain ⟨n',hn'⟩:∃n',n'=aj (N/g):=⟨_,rfl⟩;rw [←hn'] at D1 ⊢;by_cases hq:D/g=1
 ·rw [hq,cj] at D2;have HR:=hid (show (if D/g=1 then ay else aj (D/g))=({data:= #[]}:ByteArray) by rw [if_pos hq];rfl);rw [HR.out];generalize aj (N%g)=n2 at *
  generalize aj (D%g)=n3 at *
  generalize aj N=n at *
  generalize aj D=d at *
  generalize aj g=gs at *
  clear hE hg hg0 hd sa sb sg' ha hb hN HR hD hg1 hq hn';go_enter func88,ntmps88
  go_wp2_with fail
  refine Calls.mono (N1.out _) ?_;rintro e w1 ⟨rfl,rfl⟩;go_wp2_with fail
  refine Calls.mono (N2.out _) ?_;rintro e w1 ⟨rfl,rfl⟩;go_wp2_with fail
  refine Calls.mono (G.out _) ?_;rintro e w1 ⟨rfl,hb1⟩;go_wp2_with fail
  refine Calls.mono (D1.out _) ?_;rintro e w2 ⟨rfl,hb2⟩;go_wp2_with fail
  refine Calls.mono (D2.out _) ?_;rintro e w3 ⟨rfl,hb3⟩;have hx1:=((hx0.out.next hb1).next hb2).next hb3;obtain ⟨x0,x1,x2,x3,x4⟩:=hx1.1.facts;go_wp2
  have S:=hx1.ret ⟨neg,n',{data:= #[]}⟩;dsimp only at S;refine bw S.1 (fun W' c0 c1 c2=>by simp [results,Tryz.results88,go_sem,c0,c1,c2]) rfl ⟨rfl,S.2⟩
 have hqs:=gf (gE hq);have HR:=hid (show (if D/g=1 then ay else aj (D/g))=aj (D/g) by rw [if_neg hq]);rw [HR.out];generalize aj (N%g)=n2 at *
 generalize aj (D%g)=n3 at *
 generalize aj (D/g)=d' at *
 generalize aj N=n at *
 generalize aj D=d at *
 generalize aj g=gs at *
 clear hE hg hg0 hd sa sb sg' ha hb hN HR hD hg1 hq hn';go_enter func88,ntmps88
 go_wp2_with fail
 refine Calls.mono (N1.out _) ?_;rintro e w1 ⟨rfl,rfl⟩;go_wp2_with fail
 refine Calls.mono (N2.out _) ?_;rintro e w1 ⟨rfl,rfl⟩;go_wp2_with fail
 refine Calls.mono (G.out _) ?_;rintro e w1 ⟨rfl,hb1⟩;go_wp2_with fail
 refine Calls.mono (D1.out _) ?_;rintro e w2 ⟨rfl,hb2⟩;go_wp2_with fail
 refine Calls.mono (D2.out _) ?_;rintro e w3 ⟨rfl,hb3⟩;have hx1:=((hx0.out.next hb1).next hb2).next hb3;obtain ⟨x0,x1,x2,x3,x4⟩:=hx1.1.facts;go_wp2
 have S:=hx1.ret ⟨neg,n',d'⟩;dsimp only at S;refine bw S.1 (fun W' c0 c1 c2=>by simp [results,Tryz.results88,go_sem,c0,c1,c2]) rfl ⟨rfl,S.2⟩
theorem AJ (z:Int):mkRat z 1=(z:Rat):=Rat.mkRat_self (z:Rat)
theorem Cv (n:Int) (w:World) (h0: -9223372036854775808<=n) (h1:n<=9223372036854775807):Calls prog 52 #[.int .i64 n] w fun e w'=>e= .returned (aF (enc (n:Rat)))/\Below w.heap.size w w':=by
 have M:=hid (fun w=>pk n w h0 h1);have hs:(aj n.natAbs).size<=8:=by rw [bK];exact bk (by omega)
 have R:=hid (fun w=>ez (decide (n<0)) (aj n.natAbs) {data:= #[1]} w (by omega) (by show 1<=_;decide) (by decide));have e1:ah {data:= #[1]}=1:=by rw [←cj,aE]
 rw [aE,e1,Fk,AJ] at R;have hx0:=hid (Bx1.new w);generalize enc (n:Rat)=a at *
 generalize aj n.natAbs=s at *
 unfold aF;clear e1 hs;go_enter func52,ntmps52
 go_wp2_with fail
 refine Calls.mono (M.out _) ?_;rintro e w1 ⟨rfl,hb1⟩;go_wp2_with fail
 refine Calls.mono (R.out _) ?_;rintro e w2 ⟨rfl,hb2⟩;unfold aF;have hx1:=(hx0.out.next hb1).next hb2;obtain ⟨x0,x1,x2,x3,x4⟩:=hx1.1.facts;go_wp2
 refine bw (hx1.ret _).1 (fun W' c0 c1 c2=>by simp [results,Tryz.results52,go_sem,c0,c1,c2]) rfl ⟨rfl,(hx1.ret _).2⟩
theorem AK (r:GRat) (w:World) (h1:r.num.size<=500000000000) (h2:r.den.size<=500000000000):
  Calls prog 42 #[aF r] w fun e w'=>e= .returned (.int .i64 (cU (qOf r)))/\Below w.heap.size w w':=by
 have C:=hid (fun w=>ck r w h1 h2);have S:=hid (fun w=>jy (enc (qOf r)) w);rw [lW] at S;generalize enc (qOf r)=a at *
 generalize cU (qOf r)=s at *
 unfold aF;clear h1 h2;go_enter func42,ntmps42
 go_wp2_with fail
 refine Calls.mono (C.out _) ?_;rintro e w1 ⟨rfl,hb1⟩;go_wp2_with fail
 refine Calls.mono (S.out _) ?_;rintro e w2 ⟨rfl,hb2⟩;go_wp2
 go_ret
 exact ⟨rfl,Below.step (((Below.refl _ _).alloc (Nat.le_refl _) _).step hb1) hb2⟩
theorem Cw (neg:Bool) (a b:ByteArray) (k:Nat) (w:World) (hk:k<=400000000000) (ha:a.size<=k) (hb:b.size<=k) (hd:0<ah b):
  Calls prog 143 #[.bool neg,.string a,.string b] w fun e w'=>e= .returned (.tuple #[aF (enc (mkRat (sg neg (ah a)) (ah b))),.bool true])/\Below w.heap.size w w':=by
 have L1:=hid (fun w=>ia a w (by omega));have L2:=hid (fun w=>ia b w (by omega));have NA:=hid (NB.str ha);have NB':=hid (NB.str hb);generalize ah a=N at *
 generalize ah b=D at *
 have R:=hid (fun (w:World) (u v:Value)=>ew neg u v N D k w NA.out NB'.out (by omega) hd);generalize enc (mkRat (sg neg N) D)=q at *
 have hx0:=hid (Bx1.new w);unfold aF;clear ha hb hk;have HD:=hid hd;clear hd;go_enter func143,ntmps143
 go_wp2_with fail
 refine Calls.mono (L2.out _) ?_;rintro e w1 ⟨v,rfl,hv,hb1⟩;obtain ⟨vb,voff,vm,vc,vx,rfl,hv2,hv3,hv4,hv5⟩:=hv.kind HD.out;have hvm:0<vm:=by omega
 clear hv2 hv3 hv5;go_wp2_with fail
 refine Calls.mono (L1.out _) ?_;rintro e w2 ⟨u,rfl,hu,hb2⟩;go_wp2_with fail
 refine Calls.mono (R.out _ _ _ hu (hv.below hb2)) ?_;rintro e w3 ⟨rfl,hb3⟩;unfold aF;have hx1:=((hx0.out.next hb1).next hb2).next hb3;obtain ⟨x0,x1,x2,x3,x4⟩:=hx1.1.facts;go_wp2
 refine rK (hx1.ret q).1 (fun W' c0 c1 c2=>by simp [results,Tryz.results143,go_sem,c0,c1,c2]) rfl ⟨rfl,(hx1.ret _).2⟩
theorem tq (a b:Nat) (w:World) (ha:a<=9223372036854775807) (hb:b<=9223372036854775807) (hd:0<b):
  Calls prog 90 #[.int .i64 a,.int .i64 b] w fun e w'=>e= .returned (.tuple #[aF (enc (mkRat (a:Int) b)),.bool true])/\Below w.heap.size w w':=by
 have S1:=hid (fun w=>uT a w (by omega) (by omega));have S2:=hid (fun w=>uT b w (by omega) (by omega));have F1:=hid (fun w=>kJ a w (by omega));have F2:=hid (fun w=>kJ b w (by omega));have s1:(aj a).size<=8:=by rw [bK];exact bk (by omega)
 have s2:(aj b).size<=8:=by rw [bK];exact bk (by omega)
 have M:=hid (fun w=>Cw false (aj a) (aj b) 8 w (by decide) s1 s2 (by rw [aE];exact hd));simp only [aE] at M;rw [show sg false a=(a:Int) from rfl] at M;rw [Int.natAbs_natCast] at S1 S2;generalize enc (mkRat (a:Int) b)=q at *
 have hx0:=hid (Bx1.new w);generalize aj a=sa at *
 generalize aj b=sb at *
 unfold aF;clear s1 s2;go_enter func90,ntmps90
 go_wp2_with fail
 refine Calls.mono (S1.out _) ?_;rintro e w1 ⟨rfl,rfl⟩;go_wp2_with fail
 refine Calls.mono (F1.out _) ?_;rintro e w1 ⟨rfl,hb1⟩;go_wp2_with fail
 refine Calls.mono (S2.out _) ?_;rintro e w2 ⟨rfl,rfl⟩;go_wp2_with fail
 refine Calls.mono (F2.out _) ?_;rintro e w2 ⟨rfl,hb2⟩;go_wp2_with fail
 refine Calls.mono (M.out _) ?_;rintro e w3 ⟨rfl,hb3⟩;unfold aF;have hx1:=((hx0.out.next hb1).next hb2).next hb3;obtain ⟨x0,x1,x2,x3,x4⟩:=hx1.1.facts;go_wp2
 refine rK (hx1.ret q).1 (fun W' c0 c1 c2=>by simp [results,Tryz.results90,go_sem,c0,c1,c2]) rfl ⟨rfl,(hx1.ret _).2⟩
attribute [local go_sem ↓] Go.wp_at_zero Go.wp_at_succ
def Cx (p q:Rat) (k X Y D:Nat):Prop:=NB k X/\NB k Y/\NB k D/\0<D/\(bc p=bc q->p+q=mkRat (sg (bc p) (X+Y)) D)/\
 (bc p≠bc q->X<Y->p+q=mkRat (sg (bc q) (Y-X)) D)/\(bc p≠bc q->Y<=X->p+q=mkRat (sg (bc p) (X-Y)) D)
theorem Cy {p q:Rat} {m n:Nat} (hp:qB m p) (hq:qB n q):Cx p q (m+n) (p.num.natAbs*q.den) (q.num.natAbs*p.den) (p.den*q.den):=
 ⟨NB.mul hp.1 hq.2,by rw [Nat.add_comm];exact NB.mul hq.1 hp.2,NB.mul hp.2 hq.2,Nat.mul_pos p.den_pos q.den_pos,fun h=>rE h,fun h=>yQ h,fun h=>yR h⟩
theorem Cz {p q:Rat} {m n:Nat} (hp:qB m p) (hq:qB n q) (h:p.den=q.den):Cx p q (m+n) p.num.natAbs q.num.natAbs p.den:=
 ⟨NB.mono hp.1 (by omega),NB.mono hq.1 (by omega),NB.mono hp.2 (by omega),p.den_pos,fun e=>xw h e,fun e=>BZ h e,fun e=>B6 h e⟩
theorem NB.size {k n:Nat} (h:NB k n):(aj n).size<=k:=by rw [bK];exact bk h
theorem Bx3.drewN {w w1:World} {r1 r2:GRat} (h:Bx3 w w1 r1 r2) (n:Nat):Bx3 w (w1.drewN n) r1 r2:=⟨h.1,h.2.1,h.2.2.1,h.2.2.2.drewN n⟩
theorem u7 (p q:Rat) (m n:Nat) (w:World) (hp:qB m p) (hq:qB n q) (hm:m<=100000000000) (hn:n<=100000000000):
  Calls prog 77 #[aF (enc p),aF (enc q)] w fun e w'=>e= .returned (aF (enc (p+q)))/\Below w.heap.size w w':=by
 have DA:=hid (fun w=>gF p w);have DB:=hid (fun w=>gF q w);have an:(enc p).num=aj p.num.natAbs:=rfl;have bn:(enc q).num=aj q.num.natAbs:=rfl;have s1:(aj p.num.natAbs).size<=m:=NB.size hp.1;have s2:(aj q.num.natAbs).size<=n:=NB.size hq.1;have s3:(aj p.den).size<=m:=NB.size hp.2;have s4:(aj q.den).size<=n:=NB.size hq.2;have M1:=hid (fun w=>dl (enc p).num (aj q.den) w (by rw [an];omega) (by omega));have M2:=hid (fun w=>dl (enc q).num (aj p.den) w (by rw [bn];omega) (by omega));have M3:=hid (fun w=>dl (aj p.den) (aj q.den) w (by omega) (by omega));simp only [an,bn,aE] at M1 M2 M3;simp only [←an,←bn] at M1 M2 M3;have HNe:=hid (Cy hp hq);have HEq:=hid (fun h=>Cz hp hq h);have hde:p.den=q.den->(enc p).den=(enc q).den:=fun h=>by unfold enc;simp only [h]
 have hdn:p.den≠q.den->(enc p).den≠(enc q).den:=fun h e=>h (by have a1:=j7 p;have a2:=j7 q;unfold qP at a1 a2;rw [e] at a1;omega)
 have HDE:=hid hde;have HDN:=hid (fun h=>pf (hdn h));have AN:=hid an;have BN:=hid bn;have hx0:=hid (Bx3.new w (enc p) (enc q));have en1:(enc p).neg=bc p:=rfl;have en2:(enc q).neg=bc q:=rfl;have EN1:=hid en1;have EN2:=hid en2;obtain ⟨k,hk⟩:∃k,k=m+n:=⟨_,rfl⟩;have hkb:k<=200000000000:=by omega
 rw [←hk] at HNe;simp only [←hk] at HEq;obtain ⟨c,hc⟩:∃c,c=enc (p+q):=⟨_,rfl⟩;rw [←hc];have HC:=hid hc;generalize enc p=a at *
 generalize enc q=b at *
 unfold aF at DA DB;unfold aF;clear hp hq an bn s1 s2 s3 s4 hde hdn hc hk en1 en2 hm hn;go_enter func77,ntmps77
 go_upto_region 1 with fail
 go_cut [5,6,7] (fun s5 s6 s7 wx=>s5= .string a.num/\s6= .string b.num/\s7= .string {data:= #[1]}/\Bx3 w wx a b)
 case first=>
  go_quiet (fail)
  go_wp2
  go_meet
  case rel=>exact ⟨rfl,rfl,rfl,Bx3.drewN hx0.out _⟩
 case rest=>
 obtain ⟨rfl,rfl,rfl,hx⟩:=hcut;obtain ⟨z0,z1,z2,z3,z4⟩:=hx.1.facts;obtain ⟨y0,y1,y2,y3,y4⟩:=hx.2.1.facts;go_upto_region 2 with fail
 go_cut [20] (fun s20 wx=>s20= .bool (decide (p.den≠q.den))/\wc=wx)
 case first=>
  by_cases hd:p.den=q.den
  ·have e1:(a.den.toList==b.den.toList)=true:=by rw [HDE.out hd];simp
   go_wp2
   go_meet
   case rel=>exact ⟨congrArg Value.bool (by simp [hd]),rfl⟩
  have e1:=HDN.out hd;go_wp2
  go_meet
  case rel=>exact ⟨congrArg Value.bool (by simp [hd]),rfl⟩
 case rest=>
 obtain ⟨rfl,rfl⟩:=hcut;go_upto_if 20 with fail
 go_cut [5,6,7] (fun s5 s6 s7 wx=>∃X Y D,s5= .string (aj X)/\s6= .string (aj Y)/\s7= .string (aj D)/\Hid (Cx p q k X Y D)/\Bx3 w wx a b)
 case first=>
  by_cases hd:p.den≠q.den
  rotate_left
  ·have HDD:=hid (Decidable.not_not.1 hd);go_wp2_with fail
   refine Calls.mono (DA.out _) ?_;rintro e w1 ⟨rfl,hb1⟩;go_wp2
   go_meet
   case rel=>exact ⟨p.num.natAbs,q.num.natAbs,p.den,by rw [AN.out],by rw [BN.out],rfl,HEq.out HDD.out,hx.next hb1⟩
  go_wp2_with fail
  go_region_held3 (fun w'=>w'.cell? ⟨w.heap.size,0,none⟩=some (.bool a.neg)/\w'.cell? ⟨w.heap.size,1,none⟩=some (.string a.num)/\w'.cell? ⟨w.heap.size,2,none⟩=some (.string a.den)/\w'.cell? ⟨w.heap.size+1,0,none⟩=some (.bool b.neg)/\w'.cell? ⟨w.heap.size+1,1,none⟩=some (.string b.num)/\w'.cell? ⟨w.heap.size+1,2,none⟩=some (.string b.den)) (go_keep)
   (first
    |(go_at_call_of 86 (Value.agg #[.bool a.neg,.string a.num,.string a.den]);refine Calls.mono (DA.out _) ?_;rintro e wn ⟨rfl,hbn⟩;(first|replace hx:=Bx3.next hx hbn|replace hx:=Bx3.next (Bx3.drew hx) hbn);clear z0 z1 z2 z3 z4 y0 y1 y2 y3 y4;obtain ⟨z0,z1,z2,z3,z4⟩:=hx.1.facts;obtain ⟨y0,y1,y2,y3,y4⟩:=hx.2.1.facts)
    |(go_at_call_of 86 (Value.agg #[.bool b.neg,.string b.num,.string b.den]);refine Calls.mono (DB.out _) ?_;rintro e wn ⟨rfl,hbn⟩;(first|replace hx:=Bx3.next hx hbn|replace hx:=Bx3.next (Bx3.drew hx) hbn);clear z0 z1 z2 z3 z4 y0 y1 y2 y3 y4;obtain ⟨z0,z1,z2,z3,z4⟩:=hx.1.facts;obtain ⟨y0,y1,y2,y3,y4⟩:=hx.2.1.facts)
    |(go_at_call_of 85 (Value.string a.num);refine Calls.mono (M1.out _) ?_;rintro e wn ⟨rfl,hbn⟩;(first|replace hx:=Bx3.next hx hbn|replace hx:=Bx3.next (Bx3.drew hx) hbn);clear z0 z1 z2 z3 z4 y0 y1 y2 y3 y4;obtain ⟨z0,z1,z2,z3,z4⟩:=hx.1.facts;obtain ⟨y0,y1,y2,y3,y4⟩:=hx.2.1.facts)
    |(go_at_call_of 85 (Value.string b.num);refine Calls.mono (M2.out _) ?_;rintro e wn ⟨rfl,hbn⟩;(first|replace hx:=Bx3.next hx hbn|replace hx:=Bx3.next (Bx3.drew hx) hbn);clear z0 z1 z2 z3 z4 y0 y1 y2 y3 y4;obtain ⟨z0,z1,z2,z3,z4⟩:=hx.1.facts;obtain ⟨y0,y1,y2,y3,y4⟩:=hx.2.1.facts))
  go_wp2_with fail
  go_region_held3 (fun w'=>w'.cell? ⟨w.heap.size,0,none⟩=some (.bool a.neg)/\w'.cell? ⟨w.heap.size,1,none⟩=some (.string a.num)/\w'.cell? ⟨w.heap.size,2,none⟩=some (.string a.den)/\w'.cell? ⟨w.heap.size+1,0,none⟩=some (.bool b.neg)/\w'.cell? ⟨w.heap.size+1,1,none⟩=some (.string b.num)/\w'.cell? ⟨w.heap.size+1,2,none⟩=some (.string b.den)) (go_keep)
   (first
    |(go_at_call_of 86 (Value.agg #[.bool a.neg,.string a.num,.string a.den]);refine Calls.mono (DA.out _) ?_;rintro e wn ⟨rfl,hbn⟩;(first|replace hx:=Bx3.next hx hbn|replace hx:=Bx3.next (Bx3.drew hx) hbn);clear z0 z1 z2 z3 z4 y0 y1 y2 y3 y4;obtain ⟨z0,z1,z2,z3,z4⟩:=hx.1.facts;obtain ⟨y0,y1,y2,y3,y4⟩:=hx.2.1.facts)
    |(go_at_call_of 86 (Value.agg #[.bool b.neg,.string b.num,.string b.den]);refine Calls.mono (DB.out _) ?_;rintro e wn ⟨rfl,hbn⟩;(first|replace hx:=Bx3.next hx hbn|replace hx:=Bx3.next (Bx3.drew hx) hbn);clear z0 z1 z2 z3 z4 y0 y1 y2 y3 y4;obtain ⟨z0,z1,z2,z3,z4⟩:=hx.1.facts;obtain ⟨y0,y1,y2,y3,y4⟩:=hx.2.1.facts)
    |(go_at_call_of 85 (Value.string (aj p.den));refine Calls.mono (M3.out _) ?_;rintro e wn ⟨rfl,hbn⟩;(first|replace hx:=Bx3.next hx hbn|replace hx:=Bx3.next (Bx3.drew hx) hbn);clear z0 z1 z2 z3 z4 y0 y1 y2 y3 y4;obtain ⟨z0,z1,z2,z3,z4⟩:=hx.1.facts;obtain ⟨y0,y1,y2,y3,y4⟩:=hx.2.1.facts))
  go_wp2
  go_meet
  case rel=>exact ⟨_,_,_,rfl,rfl,rfl,HNe,hx⟩
 case rest=>
  clear z0 z1 z2 z3 z4 y0 y1 y2 y3 y4 hx;obtain ⟨X,Y,D,rfl,rfl,rfl,HS,hx⟩:=hcut;obtain ⟨z0,z1,z2,z3,z4⟩:=hx.1.facts;obtain ⟨y0,y1,y2,y3,y4⟩:=hx.2.1.facts;obtain ⟨nx,ny,nd,hD0,f1,f2,f3⟩:=HS.out;have sx:=nx.size;have sy:=ny.size;have sd:=nd.size;by_cases hs:bc p=bc q
  ·have e:(a.neg==b.neg)=true:=by rw [EN1.out,EN2.out,hs];simp
   have hE:=f1 hs;have hxy:(aj (X+Y)).size<=400000000000:=Nat.le_trans (nx.add ny).size (by omega);have A1:=hid (fun w=>Eg (aj X) (aj Y) w (by omega) (by omega));have R1:=hid (fun w=>ez (bc p) (aj (X+Y)) (aj D) w hxy (by omega) (by rw [aE];exact hD0));simp only [aE] at A1 R1;rw [←hE,←HC.out,←EN1.out] at R1;clear hs hE f1 f2 f3 nx ny nd sx sy sd hD0 hxy HS;go_wp2_with fail
   go_region_with (first
    |(go_at_call 124;refine Calls.mono (A1.out _) ?_;rintro e wn ⟨rfl,hbn⟩;replace hx:=Bx3.next (Bx3.drew hx) hbn;clear z0 z1 z2 z3 z4 y0 y1 y2 y3 y4;obtain ⟨z0,z1,z2,z3,z4⟩:=hx.1.facts)
    |(go_at_call 88;refine Calls.mono (R1.out _) ?_;rintro e wm ⟨rfl,hbm⟩;unfold aF;replace hx:=Bx3.next hx hbm;obtain ⟨t0,t1,t2,t3,t4⟩:=hx.2.2.1.facts))
   all_goals (go_wp2;refine bw (hx.ret c).1 (fun W' c0 c1 c2=>by simp [results,Tryz.results77,go_sem,c0,c1,c2]) rfl ⟨rfl,(hx.ret c).2⟩)
  have e:(a.neg==b.neg)=false:=by rw [EN1.out,EN2.out];simp [hs]
  by_cases hl:X<Y
  ·have hE:=f2 hs hl;have A1:=hid (fun w=>uI (aj X) (aj Y) w (by omega) (by omega) (by rw [aE,aE];exact hl));have A2:=hid (fun w=>nE (aj Y) (aj X) w (by omega) (by omega) (by rw [aE,aE];omega));have hxy:(aj (Y-X)).size<=400000000000:=Nat.le_trans (ny.le (Nat.sub_le _ _)).size (by omega);have R1:=hid (fun w=>ez (bc q) (aj (Y-X)) (aj D) w hxy (by omega) (by rw [aE];exact hD0));simp only [aE] at A1 A2 R1;rw [←hE,←HC.out,←EN2.out] at R1;clear hs hE f1 f2 f3 nx ny nd sx sy sd hD0 hxy HS hl;go_wp2_with fail
   refine Calls.mono (A1.out _) ?_;rintro e8 w8 ⟨rfl,hb8⟩;replace hx:=Bx3.next hx hb8;go_wp2_with fail
   refine Calls.mono (A2.out _) ?_;rintro e9 w9 ⟨rfl,hb9⟩;replace hx:=Bx3.next hx hb9;clear z0 z1 z2 z3 z4 y0 y1 y2 y3 y4;obtain ⟨y0,y1,y2,y3,y4⟩:=hx.2.1.facts;go_wp2_with fail
   refine Calls.mono (R1.out _) ?_;rintro ea wa ⟨rfl,hba⟩;unfold aF;replace hx:=Bx3.next hx hba;obtain ⟨t0,t1,t2,t3,t4⟩:=hx.2.2.1.facts;go_wp2
   refine bw (hx.ret c).1 (fun W' c0 c1 c2=>by simp [results,Tryz.results77,go_sem,c0,c1,c2]) rfl ⟨rfl,(hx.ret c).2⟩
  have hE:=f3 hs (Nat.le_of_not_lt hl);have A1:=hid (fun w=>nE (aj X) (aj Y) w (by omega) (by omega) (by rw [aE,aE];omega));have hxy:(aj (X-Y)).size<=400000000000:=Nat.le_trans (nx.le (Nat.sub_le _ _)).size (by omega);have R1:=hid (fun w=>ez (bc p) (aj (X-Y)) (aj D) w hxy (by omega) (by rw [aE];exact hD0));simp only [aE] at A1 R1;rw [←hE,←HC.out,←EN1.out] at R1;clear hs hE f1 f2 f3 nx ny nd sx sy sd hD0 hxy HS hl;go_wp2_with fail
  refine Calls.mono (A1.out _) ?_;rintro e8 w8 ⟨rfl,hb8⟩;replace hx:=Bx3.next hx hb8;clear z0 z1 z2 z3 z4 y0 y1 y2 y3 y4;obtain ⟨z0,z1,z2,z3,z4⟩:=hx.1.facts;go_wp2_with fail
  refine Calls.mono (R1.out _) ?_;rintro ea wa ⟨rfl,hba⟩;unfold aF;replace hx:=Bx3.next hx hba;obtain ⟨t0,t1,t2,t3,t4⟩:=hx.2.2.1.facts;go_wp2
  refine bw (hx.ret c).1 (fun W' c0 c1 c2=>by simp [results,Tryz.results77,go_sem,c0,c1,c2]) rfl ⟨rfl,(hx.ret c).2⟩
attribute [local go_sem ↓] Go.wp_at_zero Go.wp_at_succ
def sB (m:Nat) (r:GRat):Prop:=r.num.size<=m/\r.den.size<=m
theorem sB.qB {m:Nat} {r:GRat} (h:sB m r) (hm:0<m):qB m (qOf r):=Ga hm h.1 h.2
theorem dT {m:Nat} {q:Rat} (h:Go.Proofs.YtokmkopihhnggaaGreatDoor.qB m q):sB m (enc q):=gC h
theorem sB.mono {m n:Nat} {r:GRat} (h:sB m r) (hm:m<=n):sB n r:=⟨Nat.le_trans h.1 hm,Nat.le_trans h.2 hm⟩
theorem CA (r1 r2:GRat) (m n:Nat) (w:World) (h1:sB m r1) (h2:sB n r2) (hm:m<=100000000000) (hn:n<=100000000000) (hm0:0<m) (hn0:0<n):
  Calls prog 31 #[aF r1,aF r2] w fun e w'=>e= .returned (aF (enc (qOf r1+qOf r2)))/\Below w.heap.size w w':=by
 have C1:=hid (fun w=>ck r1 w (by have:=h1.1;omega) (by have:=h1.2;omega));have C2:=hid (fun w=>ck r2 w (by have:=h2.1;omega) (by have:=h2.2;omega));have A:=hid (fun w=>u7 (qOf r1) (qOf r2) m n w (h1.qB hm0) (h2.qB hn0) hm hn);have hx:=(Bx3.new w r1 r2).drew;obtain ⟨z0,z1,z2,z3,z4⟩:=hx.1.facts;clear z0 z1 z2 z3 z4;generalize enc (qOf r1+qOf r2)=c at *
 generalize enc (qOf r1)=a at *
 generalize enc (qOf r2)=b at *
 have HX:=hid hx;clear hx h1 h2 hm hn hm0 hn0;unfold aF at C1 C2 A;unfold aF;go_enter func31,ntmps31
 go_wp2_with fail
 go_region_with (first
  |(go_at_call_of 78 (Value.agg #[.bool r1.neg,.string r1.num,.string r1.den]);refine Calls.mono (C1.out _) ?_;rintro e w1 ⟨rfl,hb1⟩;have hx1:=Bx3.next HX.out hb1;obtain ⟨y0,y1,y2,y3,y4⟩:=hx1.2.1.facts)
  |(go_at_call_of 78 (Value.agg #[.bool r2.neg,.string r2.num,.string r2.den]);refine Calls.mono (C2.out _) ?_;rintro e w2 ⟨rfl,hb2⟩;have hx2:=Bx3.next hx1 hb2)
  |(go_at_call 77;refine Calls.mono (A.out _) ?_;rintro e w3 ⟨rfl,hb3⟩;have hx3:=Bx3.next hx2 hb3;obtain ⟨t0,t1,t2,t3,t4⟩:=hx3.2.2.1.facts))
 all_goals (go_wp2;refine bw (hx3.ret c).1 (fun W' c0 c1 c2=>by simp [results,Tryz.results31,go_sem,c0,c1,c2]) rfl ⟨rfl,(hx3.ret c).2⟩)
theorem qR (r1 r2:GRat) (m n:Nat) (w:World) (h1:sB m r1) (h2:sB n r2) (hm:m<=100000000000) (hn:n<=100000000000) (hm0:0<m) (hn0:0<n):
  Calls prog 39 #[aF r1,aF r2] w fun e w'=>e= .returned (aF (enc (qOf r1-qOf r2)))/\Below w.heap.size w w':=by
 have C1:=hid (fun w=>ck r1 w (by have:=h1.1;omega) (by have:=h1.2;omega));have C2:=hid (fun w=>ck r2 w (by have:=h2.1;omega) (by have:=h2.2;omega));have N:=hid (fun w=>u6 (enc (qOf r2)) w (fun h=>by have e:=(bY _).1 h;rw [e];rfl));rw [uV] at N;have A:=hid (fun w=>u7 (qOf r1) (-qOf r2) m n w (h1.qB hm0) (h2.qB hn0).neg hm hn);rw [←Rat.sub_eq_add_neg] at A;have HX:=hid (Bx3.new w r1 r2).drew;generalize enc (qOf r1-qOf r2)=c at *
 generalize enc (-qOf r2)=d at *
 generalize enc (qOf r1)=a at *
 generalize enc (qOf r2)=b at *
 clear h1 h2 hm hn hm0 hn0;unfold aF at C1 C2 A N;unfold aF;go_enter func39,ntmps39
 go_wp2_with fail
 go_region_with (first
  |(go_at_call_of 78 (Value.agg #[.bool r1.neg,.string r1.num,.string r1.den]);refine Calls.mono (C1.out _) ?_;rintro e w1 ⟨rfl,hb1⟩;have hx1:=Bx3.next HX.out hb1;obtain ⟨y0,y1,y2,y3,y4⟩:=hx1.2.1.facts)
  |(go_at_call_of 78 (Value.agg #[.bool r2.neg,.string r2.num,.string r2.den]);refine Calls.mono (C2.out _) ?_;rintro e w2 ⟨rfl,hb2⟩;have hx2:=Bx3.next hx1 hb2)
  |(go_at_call 89;refine Calls.mono (N.out _) ?_;rintro e w4 ⟨rfl,hb4⟩;replace hx2:=Bx3.next hx2 hb4)
  |(go_at_call 77;refine Calls.mono (A.out _) ?_;rintro e w3 ⟨rfl,hb3⟩;have hx3:=Bx3.next hx2 hb3;obtain ⟨t0,t1,t2,t3,t4⟩:=hx3.2.2.1.facts))
 all_goals (go_wp2;refine bw (hx3.ret c).1 (fun W' c0 c1 c2=>by simp [results,Tryz.results39,go_sem,c0,c1,c2]) rfl ⟨rfl,(hx3.ret c).2⟩)
attribute [local go_sem ↓] Go.wp_at_zero Go.wp_at_succ
abbrev put3 (w:World) (b:Nat) (a:GRat):World:=((w.setCell ⟨b,0,none⟩ (.bool a.neg)).setCell ⟨b,1,none⟩ (.string a.num)).setCell ⟨b,2,none⟩ (.string a.den)
theorem Bx.put {w:World} {b:Nat} {r:GRat} (h:Bx w b r) (a:GRat):Bx (put3 w b a) b a:=(Blk3.stored h _ _ _).2.2.2
theorem Bx.other {w:World} {b b':Nat} {r:GRat} (h:Bx w b r) (hne:b'≠b) (a:GRat):Bx (put3 w b' a) b r:=((Blk3.other h hne _ _).other hne _ _).other hne _ _
theorem iu {w w1:World} {b:Nat} (h:Below w.heap.size w w1) (hb:w.heap.size<=b) (a:GRat):Below w.heap.size w (put3 w1 b a):=((h.setCell hb _).setCell hb _).setCell hb _
theorem Bx2.put2 {w w1:World} {r1 r2:GRat} (h:Bx2 w w1 r1 r2) (a b:GRat):Bx2 w (put3 (put3 w1 w.heap.size a) (w.heap.size+1) b) a b:=
 ⟨(h.1.put a).other (by omega) b,(h.2.1.other (by omega) a).put b,iu (iu h.2.2 (Nat.le_refl _) a) (by omega) b⟩
theorem Bx3.put2 {w w1:World} {r1 r2:GRat} (h:Bx3 w w1 r1 r2) (a b:GRat):Bx3 w (put3 (put3 w1 w.heap.size a) (w.heap.size+1) b) a b:=
 ⟨(h.1.put a).other (by omega) b,(h.2.1.other (by omega) a).put b,(h.2.2.1.other (by omega) a).other (by omega) b,iu (iu h.2.2.2 (Nat.le_refl _) a) (by omega) b⟩
theorem AM (x y:Nat): -1<=bp x y/\bp x y<=1:=by unfold bp;split<;>(try split)<;>omega
theorem iR (r1 r2:GRat) (m n:Nat) (w:World) (h1:sB m r1) (h2:sB n r2) (hm:m<=100000000000) (hn:n<=100000000000) (hm0:0<m) (hn0:0<n):
  Calls prog 34 #[aF r1,aF r2] w fun e w'=>e= .returned (.int .i64 (dM (qOf r1) (qOf r2)))/\Below w.heap.size w w':=by
 have C1:=hid (fun w=>ck r1 w (by have:=h1.1;omega) (by have:=h1.2;omega));have C2:=hid (fun w=>ck r2 w (by have:=h2.1;omega) (by have:=h2.2;omega));have S1:=hid (fun w=>jy (enc (qOf r1)) w);have S2:=hid (fun w=>jy (enc (qOf r2)) w);rw [lW] at S1 S2;have DA:=hid (fun w=>gF (qOf r1) w);have DB:=hid (fun w=>gF (qOf r2) w);have hp:=h1.qB hm0;have hq:=h2.qB hn0;generalize qOf r1=p at *
 generalize qOf r2=q at *
 have an:(enc p).num=aj p.num.natAbs:=rfl;have bn:(enc q).num=aj q.num.natAbs:=rfl;have s1:(aj p.num.natAbs).size<=m:=NB.size hp.1;have s2:(aj q.num.natAbs).size<=n:=NB.size hq.1;have s3:(aj p.den).size<=m:=NB.size hp.2;have s4:(aj q.den).size<=n:=NB.size hq.2;have M1:=hid (fun w=>dl (enc p).num (aj q.den) w (by rw [an];omega) (by omega));have M2:=hid (fun w=>dl (enc q).num (aj p.den) w (by rw [bn];omega) (by omega));simp only [an,bn,aE] at M1 M2;simp only [←an,←bn] at M1 M2;obtain ⟨X,hX⟩:∃X,X=p.num.natAbs*q.den:=⟨_,rfl⟩;obtain ⟨Y,hY⟩:∃X,X=q.num.natAbs*p.den:=⟨_,rfl⟩;have nx:(aj X).size<=m+n:=by rw [hX];exact NB.size (NB.mul hp.1 hq.2)
 have ny:(aj Y).size<=n+m:=by rw [hY];exact NB.size (NB.mul hq.1 hp.2)
 have CO:=hid (fun w=>u0 (aj X) (aj Y) w (by unfold maxLen;omega) (by unfold maxLen;omega));rw [aE,aE] at CO;have hpos:bc p=false->bc q=false->dM p q=bp X Y:=fun a b=>by rw [hX,hY];exact B9 a b
 have hneg:bc p=true->bc q=true->dM p q= - bp X Y:=fun a b=>by rw [hX,hY];exact Ca a b
 rw [←hX] at M1;rw [←hY] at M2;have hc:=AM X Y;have HPOS:=hid hpos;have HNEG:=hid hneg;have HSG:=hid (fun h=>Cb (p:=p) (q:=q) h);have HSE:=hid (fun h=>Eh (p:=p) (q:=q) h);have HX:=hid (Bx2.new w r1 r2).drew;have EN1:Hid ((enc p).neg=bc p):=rfl;generalize bp X Y=c at *
 generalize enc p=a at *
 generalize enc q=b at *
 obtain ⟨sp,hsp⟩:∃s,s=cU p:=⟨_,rfl⟩;obtain ⟨sq,hsq⟩:∃s,s=cU q:=⟨_,rfl⟩;rw [←hsp] at S1 HSG HSE;rw [←hsq] at S2 HSG HSE;obtain ⟨k,hk⟩:∃k,k=dM p q:=⟨_,rfl⟩;rw [←hk] at HSG HPOS HNEG ⊢;clear hpos hneg hX hY an bn s1 s2 s3 s4 nx ny hp hq h1 h2 hm hn hm0 hn0 hsp hsq hk;unfold aF at C1 C2 S1 S2 DA DB;unfold aF;go_enter func34,ntmps34
 go_upto_region 1 with fail
 go_cut [8,9,10,11] (fun _ _ _ _ wx=>Bx2 w wx a b)
 case first=>
  go_region_with (first
   |(go_at_call_of 78 (Value.agg #[.bool r1.neg,.string r1.num,.string r1.den]);refine Calls.mono (C1.out _) ?_;rintro e w1 ⟨rfl,hb1⟩;have hx1:=Bx2.next HX.out hb1;obtain ⟨y0,y1,y2,y3,y4⟩:=hx1.2.1.facts)
   |(go_at_call_of 78 (Value.agg #[.bool r2.neg,.string r2.num,.string r2.den]);refine Calls.mono (C2.out _) ?_;rintro e w2 ⟨rfl,hb2⟩;have hx2:=Bx2.next hx1 hb2;clear y0 y1 y2 y3 y4;obtain ⟨t0,t1,t2,t3,t4⟩:=hx2.1.facts;obtain ⟨y0,y1,y2,y3,y4⟩:=hx2.2.1.facts))
  all_goals (go_wp2;go_meet;exact hx2.put2 a b)
 case rest=>
  have hx:=hcut;obtain ⟨z0,z1,z2,z3,z4⟩:=hx.1.facts;obtain ⟨y0,y1,y2,y3,y4⟩:=hx.2.1.facts;clear hcut HX C1 C2;go_upto_region 2 with fail
  go_cut [5,6] (fun s5 s6 wx=>s5= .int .i64 sp/\s6= .int .i64 sq/\Bx2 w wx a b)
  case first=>
   go_region_held3 (fun w'=>w'.cell? ⟨w.heap.size,0,none⟩=some (.bool a.neg)/\w'.cell? ⟨w.heap.size,1,none⟩=some (.string a.num)/\w'.cell? ⟨w.heap.size,2,none⟩=some (.string a.den)/\w'.cell? ⟨w.heap.size+1,0,none⟩=some (.bool b.neg)/\w'.cell? ⟨w.heap.size+1,1,none⟩=some (.string b.num)/\w'.cell? ⟨w.heap.size+1,2,none⟩=some (.string b.den)) (go_keep)
    (first
     |(go_at_call_of 83 (Value.agg #[.bool a.neg,.string a.num,.string a.den]);refine Calls.mono (S1.out _) ?_;rintro e wn ⟨rfl,hbn⟩;(first|replace hx:=Bx2.next hx hbn|replace hx:=Bx2.next (Bx2.drew hx) hbn);clear z0 z1 z2 z3 z4 y0 y1 y2 y3 y4;obtain ⟨z0,z1,z2,z3,z4⟩:=hx.1.facts;obtain ⟨y0,y1,y2,y3,y4⟩:=hx.2.1.facts)
     |(go_at_call_of 83 (Value.agg #[.bool b.neg,.string b.num,.string b.den]);refine Calls.mono (S2.out _) ?_;rintro e wn ⟨rfl,hbn⟩;(first|replace hx:=Bx2.next hx hbn|replace hx:=Bx2.next (Bx2.drew hx) hbn);clear z0 z1 z2 z3 z4 y0 y1 y2 y3 y4;obtain ⟨z0,z1,z2,z3,z4⟩:=hx.1.facts;obtain ⟨y0,y1,y2,y3,y4⟩:=hx.2.1.facts))
   go_wp2
   go_meet
   case rel=>exact ⟨rfl,rfl,hx⟩
  case rest=>
  clear hx z0 z1 z2 z3 z4 y0 y1 y2 y3 y4;obtain ⟨rfl,rfl,hx⟩:=hcut;obtain ⟨z0,z1,z2,z3,z4⟩:=hx.1.facts;obtain ⟨y0,y1,y2,y3,y4⟩:=hx.2.1.facts;have hbx:=hid hx.2.2;by_cases hs:sp=sq
  ·subst hs;have hxn:=hid hx;go_upto_region 7 with fail
   go_cut [7] (fun s7 wx=>s7= .int .i64 c/\Bx2 w wx a b)
   case first=>
    go_region_held3 (fun w'=>w'.cell? ⟨w.heap.size,0,none⟩=some (.bool a.neg)/\w'.cell? ⟨w.heap.size,1,none⟩=some (.string a.num)/\w'.cell? ⟨w.heap.size,2,none⟩=some (.string a.den)/\w'.cell? ⟨w.heap.size+1,0,none⟩=some (.bool b.neg)/\w'.cell? ⟨w.heap.size+1,1,none⟩=some (.string b.num)/\w'.cell? ⟨w.heap.size+1,2,none⟩=some (.string b.den)) (go_keep)
     (first
      |(go_at_call_of 86 (Value.agg #[.bool a.neg,.string a.num,.string a.den]);refine Calls.mono (DA.out _) ?_;rintro e wn ⟨rfl,hbn⟩;(first|replace hx:=Bx2.next hx hbn|replace hx:=Bx2.next (Bx2.drew hx) hbn);clear z0 z1 z2 z3 z4 y0 y1 y2 y3 y4;obtain ⟨z0,z1,z2,z3,z4⟩:=hx.1.facts;obtain ⟨y0,y1,y2,y3,y4⟩:=hx.2.1.facts)
      |(go_at_call_of 86 (Value.agg #[.bool b.neg,.string b.num,.string b.den]);refine Calls.mono (DB.out _) ?_;rintro e wn ⟨rfl,hbn⟩;(first|replace hx:=Bx2.next hx hbn|replace hx:=Bx2.next (Bx2.drew hx) hbn);clear z0 z1 z2 z3 z4 y0 y1 y2 y3 y4;obtain ⟨z0,z1,z2,z3,z4⟩:=hx.1.facts;obtain ⟨y0,y1,y2,y3,y4⟩:=hx.2.1.facts)
      |(go_at_call_of 85 (Value.string a.num);refine Calls.mono (M1.out _) ?_;rintro e wn ⟨rfl,hbn⟩;(first|replace hx:=Bx2.next hx hbn|replace hx:=Bx2.next (Bx2.drew hx) hbn);clear z0 z1 z2 z3 z4 y0 y1 y2 y3 y4;obtain ⟨z0,z1,z2,z3,z4⟩:=hx.1.facts;obtain ⟨y0,y1,y2,y3,y4⟩:=hx.2.1.facts)
      |(go_at_call_of 85 (Value.string b.num);refine Calls.mono (M2.out _) ?_;rintro e wn ⟨rfl,hbn⟩;(first|replace hx:=Bx2.next hx hbn|replace hx:=Bx2.next (Bx2.drew hx) hbn);clear z0 z1 z2 z3 z4 y0 y1 y2 y3 y4;obtain ⟨z0,z1,z2,z3,z4⟩:=hx.1.facts;obtain ⟨y0,y1,y2,y3,y4⟩:=hx.2.1.facts)
      |(go_at_call 84;refine Calls.mono (CO.out _) ?_;rintro e wn ⟨rfl,rfl⟩))
    go_wp2
    go_meet
    case rel=>exact ⟨rfl,hx⟩
   case rest=>
   clear hx z0 z1 z2 z3 z4 y0 y1 y2 y3 y4 hbx hxn;obtain ⟨rfl,hx⟩:=hcut;obtain ⟨z0,z1,z2,z3,z4⟩:=hx.1.facts;have hbx:=hid hx.2.2;rcases HSE.out rfl with ⟨g1,g2⟩|⟨g1,g2⟩
   ·have hk:=hid (HNEG.out g1 g2);have ha:a.neg=true:=by rw [EN1.out];exact g1
    rw [ha] at z0;clear ha g1 g2 hx;go_wp2
    go_ret
    exact ⟨bQ (by rw [hk.out]),hbx.out⟩
   have hk:=hid (HPOS.out g1 g2);have ha:a.neg=false:=by rw [EN1.out];exact g1
   rw [ha] at z0;clear ha g1 g2 hx;go_wp2
   go_ret
   exact ⟨bQ (by rw [hk.out]),hbx.out⟩
  have hk:=hid (HSG.out hs);have e1:(sp==sq)=false:=by simpa using hs
  have e2:(sp !=sq)=true:=by simp [bne,e1]
  clear hx z0 z1 z2 z3 z4 y0 y1 y2 y3 y4;by_cases hl:sp<sq
  ·have hk2:=hid (show k= -1 by rw [hk.out,if_pos hl]);go_wp2
   go_ret
   exact ⟨bQ (by rw [hk2.out]),hbx.out⟩
  have hk2:=hid (show k=1 by rw [hk.out,if_neg hl]);go_wp2
  go_ret
  exact ⟨bQ (by rw [hk2.out]),hbx.out⟩
attribute [local go_sem ↓] Go.wp_at_zero Go.wp_at_succ
theorem CB (r1 r2:GRat) (m n:Nat) (w:World) (h1:sB m r1) (h2:sB n r2) (hm:m<=100000000000) (hn:n<=100000000000) (hm0:0<m) (hn0:0<n):
  Calls prog 133 #[aF r1,aF r2] w fun e w'=>e= .returned (aF (enc (nW (qOf r1) (qOf r2))))/\Below w.heap.size w w':=by
 have C1:=hid (fun w=>ck r1 w (by have:=h1.1;omega) (by have:=h1.2;omega));have C2:=hid (fun w=>ck r2 w (by have:=h2.1;omega) (by have:=h2.2;omega));have CM:=hid (fun w=>iR r1 r2 m n w h1 h2 hm hn hm0 hn0);have HX:=hid (Bx3.new w r1 r2);have hyes:0<=dM (qOf r1) (qOf r2)->nW (qOf r1) (qOf r2)=qOf r1:=fun h=>by unfold dM at h;unfold nW;grind
 have hno:¬(0<=dM (qOf r1) (qOf r2))->nW (qOf r1) (qOf r2)=qOf r2:=fun h=>by unfold dM at h;unfold nW;grind
 by_cases h:0<=dM (qOf r1) (qOf r2)
 ·rw [hyes h];generalize dM (qOf r1) (qOf r2)=k at *
  generalize enc (qOf r1)=a at *
  clear h1 h2 hm hn hm0 hn0 hyes hno C2;unfold aF at C1 CM;unfold aF;go_enter func133,ntmps133
  go_wp2_with fail
  refine Calls.mono (CM.out _) ?_;rintro e w1 ⟨rfl,hb1⟩;have hx:=HX.out.next hb1;obtain ⟨z0,z1,z2,z3,z4⟩:=hx.1.facts;go_wp2_with fail
  refine Calls.mono (C1.out _) ?_;rintro e w2 ⟨rfl,hb2⟩;replace hx:=hx.next hb2;clear z0 z1 z2 z3 z4;obtain ⟨t0,t1,t2,t3,t4⟩:=hx.2.2.1.facts;go_wp2
  refine bw (hx.ret a).1 (fun W' c0 c1 c2=>by simp [results,Tryz.results133,go_sem,c0,c1,c2]) rfl ⟨rfl,(hx.ret a).2⟩
 rw [hno h];generalize dM (qOf r1) (qOf r2)=k at *
 generalize enc (qOf r2)=a at *
 clear h1 h2 hm hn hm0 hn0 hyes hno C1;unfold aF at C2 CM;unfold aF;go_enter func133,ntmps133
 go_wp2_with fail
 refine Calls.mono (CM.out _) ?_;rintro e w1 ⟨rfl,hb1⟩;have hx:=HX.out.next hb1;obtain ⟨z0,z1,z2,z3,z4⟩:=hx.2.1.facts;go_wp2_with fail
 refine Calls.mono (C2.out _) ?_;rintro e w2 ⟨rfl,hb2⟩;replace hx:=hx.next hb2;clear z0 z1 z2 z3 z4;obtain ⟨t0,t1,t2,t3,t4⟩:=hx.2.2.1.facts;go_wp2
 refine bw (hx.ret a).1 (fun W' c0 c1 c2=>by simp [results,Tryz.results133,go_sem,c0,c1,c2]) rfl ⟨rfl,(hx.ret a).2⟩
theorem CC (r1 r2:GRat) (m n:Nat) (w:World) (h1:sB m r1) (h2:sB n r2) (hm:m<=100000000000) (hn:n<=100000000000) (hm0:0<m) (hn0:0<n):
  Calls prog 36 #[aF r1,aF r2] w fun e w'=>e= .returned (aF (enc (bC (qOf r1) (qOf r2))))/\Below w.heap.size w w':=by
 have C1:=hid (fun w=>ck r1 w (by have:=h1.1;omega) (by have:=h1.2;omega));have C2:=hid (fun w=>ck r2 w (by have:=h2.1;omega) (by have:=h2.2;omega));have CM:=hid (fun w=>iR r1 r2 m n w h1 h2 hm hn hm0 hn0);have HX:=hid (Bx3.new w r1 r2);have hyes:dM (qOf r1) (qOf r2)<=0->bC (qOf r1) (qOf r2)=qOf r1:=fun h=>by unfold dM at h;unfold bC;grind
 have hno:¬(dM (qOf r1) (qOf r2)<=0)->bC (qOf r1) (qOf r2)=qOf r2:=fun h=>by unfold dM at h;unfold bC;grind
 by_cases h:dM (qOf r1) (qOf r2)<=0
 ·rw [hyes h];generalize dM (qOf r1) (qOf r2)=k at *
  generalize enc (qOf r1)=a at *
  clear h1 h2 hm hn hm0 hn0 hyes hno C2;unfold aF at C1 CM;unfold aF;go_enter func36,ntmps36
  go_wp2_with fail
  refine Calls.mono (CM.out _) ?_;rintro e w1 ⟨rfl,hb1⟩;have hx:=HX.out.next hb1;obtain ⟨z0,z1,z2,z3,z4⟩:=hx.1.facts;go_wp2_with fail
  refine Calls.mono (C1.out _) ?_;rintro e w2 ⟨rfl,hb2⟩;replace hx:=hx.next hb2;clear z0 z1 z2 z3 z4;obtain ⟨t0,t1,t2,t3,t4⟩:=hx.2.2.1.facts;go_wp2
  refine bw (hx.ret a).1 (fun W' c0 c1 c2=>by simp [results,Tryz.results36,go_sem,c0,c1,c2]) rfl ⟨rfl,(hx.ret a).2⟩
 rw [hno h];generalize dM (qOf r1) (qOf r2)=k at *
 generalize enc (qOf r2)=a at *
 clear h1 h2 hm hn hm0 hn0 hyes hno C1;unfold aF at C2 CM;unfold aF;go_enter func36,ntmps36
 go_wp2_with fail
 refine Calls.mono (CM.out _) ?_;rintro e w1 ⟨rfl,hb1⟩;have hx:=HX.out.next hb1;obtain ⟨z0,z1,z2,z3,z4⟩:=hx.2.1.facts;go_wp2_with fail
 refine Calls.mono (C2.out _) ?_;rintro e w2 ⟨rfl,hb2⟩;replace hx:=hx.next hb2;clear z0 z1 z2 z3 z4;obtain ⟨t0,t1,t2,t3,t4⟩:=hx.2.2.1.facts;go_wp2
 refine bw (hx.ret a).1 (fun W' c0 c1 c2=>by simp [results,Tryz.results36,go_sem,c0,c1,c2]) rfl ⟨rfl,(hx.ret a).2⟩
theorem qS (r1 r2:GRat) (m n:Nat) (w:World) (h1:sB m r1) (h2:sB n r2) (hm:m<=100000000000) (hn:n<=100000000000) (hm0:0<m) (hn0:0<n):
  Calls prog 38 #[aF r1,aF r2] w fun e w'=>e= .returned (aF (enc (qOf r1*qOf r2)))/\Below w.heap.size w w':=by
 have C1:=hid (fun w=>ck r1 w (by have:=h1.1;omega) (by have:=h1.2;omega));have C2:=hid (fun w=>ck r2 w (by have:=h2.1;omega) (by have:=h2.2;omega));have DA:=hid (fun w=>gF (qOf r1) w);have DB:=hid (fun w=>gF (qOf r2) w);have hp:=h1.qB hm0;have hq:=h2.qB hn0;generalize qOf r1=p at *
 generalize qOf r2=q at *
 have an:(enc p).num=aj p.num.natAbs:=rfl;have bn:(enc q).num=aj q.num.natAbs:=rfl;have s1:(aj p.num.natAbs).size<=m:=NB.size hp.1;have s2:(aj q.num.natAbs).size<=n:=NB.size hq.1;have s3:(aj p.den).size<=m:=NB.size hp.2;have s4:(aj q.den).size<=n:=NB.size hq.2;have M1:=hid (fun w=>dl (enc p).num (enc q).num w (by rw [an];omega) (by rw [bn];omega));have M2:=hid (fun w=>dl (aj p.den) (aj q.den) w (by omega) (by omega));simp only [an,bn,aE] at M1 M2;simp only [←an,←bn] at M1;have nx:(aj (p.num.natAbs*q.num.natAbs)).size<=m+n:=NB.size (NB.mul hp.1 hq.1);have ny:(aj (p.den*q.den)).size<=m+n:=NB.size (NB.mul hp.2 hq.2);have R:=hid (fun w=>ez (bc p !=bc q) (aj (p.num.natAbs*q.num.natAbs)) (aj (p.den*q.den)) w (by omega) (by omega) (by rw [aE];exact Nat.mul_pos p.den_pos q.den_pos));rw [aE,aE,←yS] at R;have HX:=hid (Bx3.new w r1 r2).drew;rw [show bc p=(enc p).neg from rfl,show bc q=(enc q).neg from rfl] at R;generalize enc (p*q)=c at *
 generalize enc p=a at *
 generalize enc q=b at *
 clear an bn s1 s2 s3 s4 nx ny hp hq h1 h2 hm hn hm0 hn0;unfold aF at C1 C2 DA DB R;unfold aF;go_enter func38,ntmps38
 go_upto_region 1 with fail
 go_cut [5,6,7,8] (fun _ _ _ _ wx=>Bx3 w wx a b)
 case first=>
  go_region_with (first
   |(go_at_call_of 78 (Value.agg #[.bool r1.neg,.string r1.num,.string r1.den]);refine Calls.mono (C1.out _) ?_;rintro e w1 ⟨rfl,hb1⟩;have hx1:=Bx3.next HX.out hb1;obtain ⟨y0,y1,y2,y3,y4⟩:=hx1.2.1.facts)
   |(go_at_call_of 78 (Value.agg #[.bool r2.neg,.string r2.num,.string r2.den]);refine Calls.mono (C2.out _) ?_;rintro e w2 ⟨rfl,hb2⟩;have hx2:=Bx3.next hx1 hb2;clear y0 y1 y2 y3 y4;obtain ⟨t0,t1,t2,t3,t4⟩:=hx2.1.facts;obtain ⟨y0,y1,y2,y3,y4⟩:=hx2.2.1.facts))
  all_goals (go_wp2;go_meet;exact hx2.put2 a b)
 case rest=>
  have hx:=hcut;obtain ⟨z0,z1,z2,z3,z4⟩:=hx.1.facts;obtain ⟨y0,y1,y2,y3,y4⟩:=hx.2.1.facts;clear hcut HX C1 C2;have hne0:w.heap.size≠w.heap.size+1+1:=by omega
  have hne1:¬(w.heap.size+1+1=w.heap.size):=by omega
  go_wp2_with fail
  go_region_held3 (fun w'=>w'.cell? ⟨w.heap.size,0,none⟩=some (.bool a.neg)/\w'.cell? ⟨w.heap.size,1,none⟩=some (.string a.num)/\w'.cell? ⟨w.heap.size,2,none⟩=some (.string a.den)/\w'.cell? ⟨w.heap.size+1,0,none⟩=some (.bool b.neg)/\w'.cell? ⟨w.heap.size+1,1,none⟩=some (.string b.num)/\w'.cell? ⟨w.heap.size+1,2,none⟩=some (.string b.den)) (go_keep)
   (first
    |(go_at_call_of 85 (Value.string a.num);refine Calls.mono (M1.out _) ?_;rintro e wn ⟨rfl,hbn⟩;(first|replace hx:=Bx3.next hx hbn|replace hx:=Bx3.next (Bx3.drew hx) hbn);clear z0 z1 z2 z3 z4 y0 y1 y2 y3 y4;obtain ⟨z0,z1,z2,z3,z4⟩:=hx.1.facts;obtain ⟨y0,y1,y2,y3,y4⟩:=hx.2.1.facts)
    |(go_at_call_of 86 (Value.agg #[.bool a.neg,.string a.num,.string a.den]);refine Calls.mono (DA.out _) ?_;rintro e wn ⟨rfl,hbn⟩;(first|replace hx:=Bx3.next hx hbn|replace hx:=Bx3.next (Bx3.drew hx) hbn);clear z0 z1 z2 z3 z4 y0 y1 y2 y3 y4;obtain ⟨z0,z1,z2,z3,z4⟩:=hx.1.facts;obtain ⟨y0,y1,y2,y3,y4⟩:=hx.2.1.facts)
    |(go_at_call_of 86 (Value.agg #[.bool b.neg,.string b.num,.string b.den]);refine Calls.mono (DB.out _) ?_;rintro e wn ⟨rfl,hbn⟩;(first|replace hx:=Bx3.next hx hbn|replace hx:=Bx3.next (Bx3.drew hx) hbn);clear z0 z1 z2 z3 z4 y0 y1 y2 y3 y4;obtain ⟨z0,z1,z2,z3,z4⟩:=hx.1.facts;obtain ⟨y0,y1,y2,y3,y4⟩:=hx.2.1.facts)
    |(go_at_call_of 85 (Value.string (aj p.den));refine Calls.mono (M2.out _) ?_;rintro e wn ⟨rfl,hbn⟩;(first|replace hx:=Bx3.next hx hbn|replace hx:=Bx3.next (Bx3.drew hx) hbn);clear z0 z1 z2 z3 z4 y0 y1 y2 y3 y4;obtain ⟨z0,z1,z2,z3,z4⟩:=hx.1.facts;obtain ⟨y0,y1,y2,y3,y4⟩:=hx.2.1.facts)
    |(go_at_call 88;refine Calls.mono (R.out _) ?_;rintro e wn ⟨rfl,hbn⟩;(first|replace hx:=Bx3.next hx hbn|replace hx:=Bx3.next (Bx3.drew hx) hbn);clear z0 z1 z2 z3 z4 y0 y1 y2 y3 y4;obtain ⟨z0,z1,z2,z3,z4⟩:=hx.1.facts;obtain ⟨y0,y1,y2,y3,y4⟩:=hx.2.1.facts;obtain ⟨t0,t1,t2,t3,t4⟩:=hx.2.2.1.facts))
  all_goals (go_wp2;refine bw (hx.ret c).1 (fun W' c0 c1 c2=>by simp [results,Tryz.results38,go_sem,c0,c1,c2]) rfl ⟨rfl,(hx.ret c).2⟩)
end Go.Proofs.YtokmkopihhnggaaGreatDoor
