/- rational: Valid: walked. -/
import Derived.Test.YtcgpghifhehlhaaGreatDoorRef11M
import Derived.Deep.QuietTactic
import Derived.BigQuiet
import Derived.Test.YtcgpghifhehlhaaGreatDoorRef3M
import Derived.Test.YtcgpghifhehlhaaGreatDoorLftM
import Derived.Deep.RegionHeld3
import Derived.Deep.DeepCutAuto
set_option linter.unusedVariables false
set_option maxHeartbeats 2000000
set_option maxRecDepth 100000
set_option linter.unusedSimpArgs false
namespace Go.Proofs.YtcgpghifhehlhaaGreatDoor
open Go.RowKit Go.Proofs.Tryz
theorem bV:al 1={data:= #[1]}:=by
 unfold al;rw [ee (by decide)];simp [ct]
theorem lu {s t:ByteArray} (h:s≠t):(s.toList==t.toList)=false:=by
 rw [beq_eq_false_iff_ne];intro e;rw [ByteArray.toList_eq,ByteArray.toList_eq] at e;exact h (ByteArray.ext (Array.ext' e))
theorem fh {s:ByteArray} (h:s≠{data:= #[1]}):(s.toList==[1])=false:=by
 rw [beq_eq_false_iff_ne];intro e;rw [ByteArray.toList_eq] at e;exact h (ByteArray.ext (Array.ext' e))
theorem Kq {r:GRat} (c1:al (ah r.num)≠r.num):cE r=false:=by simp [cE,c1]
theorem o8 {r:GRat} (c2:al (ah r.den)≠r.den):cE r=false:=by simp [cE,c2]
theorem lv {r:GRat} (c1:al (ah r.num)=r.num) (c2:al (ah r.den)=r.den) (h:r.num.size=0):cE r=(!r.neg&&decide (r.den.size=0)):=by simp [cE,c1,c2,h]
theorem lw {r:GRat} (c1:al (ah r.num)=r.num) (c2:al (ah r.den)=r.den) (h:¬r.num.size=0):cE r=(decide (r.den.size=0)||(decide (ah r.den≠1)&&decide (Nat.gcd (ah r.num) (ah r.den)=1))):=by simp [cE,c1,c2,h]
theorem uJ (r:GRat) (w:World) (h1:r.num.size<=500000000000) (c1:al (ah r.num)≠r.num):
  Calls prog 152 #[aN r] w fun e w'=>e= .returned (.bool false)/\Below w.heap.size w w':=by
 have N1:=hid (fun w=>bH r.num w (by unfold maxLen;omega));obtain ⟨neg,num,den⟩:=r;simp only at *
 generalize al (ah num)=s at *
 have e1:=lu c1;unfold aN;simp only;clear c1;go_enter func152,ntmps152
 go_wp2
 go_quiet ((go_at_call 111;exact Calls.quiet_of_same ((N1.out _).mono fun e w' h=>⟨h.1,h.2.symm⟩)))
 go_wp2
 go_ret
 exact ⟨rfl,Below.drewN ((Below.refl _ _).alloc (Nat.le_refl _) _) _⟩
theorem uK (r:GRat) (w:World) (h1:r.num.size<=500000000000) (h2:r.den.size<=500000000000) (c1:al (ah r.num)=r.num) (c2:al (ah r.den)≠r.den):
  Calls prog 152 #[aN r] w fun e w'=>e= .returned (.bool false)/\Below w.heap.size w w':=by
 have N1:=hid (fun w=>bH r.num w (by unfold maxLen;omega));have N2:=hid (fun w=>bH r.den w (by unfold maxLen;omega));rw [c1] at N1;obtain ⟨neg,num,den⟩:=r;simp only at *
 generalize al (ah den)=s at *
 have e1:=lu c2;unfold aN;simp only;clear c1 c2;go_enter func152,ntmps152
 go_wp2
 go_quiet ((first
  |(go_at_call_of 111 (Value.string num);exact Calls.quiet_of_same ((N1.out _).mono fun e w' h=>⟨h.1,h.2.symm⟩))
  |(go_at_call_of 111 (Value.string den);exact Calls.quiet_of_same ((N2.out _).mono fun e w' h=>⟨h.1,h.2.symm⟩))))
 go_wp2
 go_ret
 exact ⟨rfl,Below.drewN ((Below.refl _ _).alloc (Nat.le_refl _) _) _⟩
theorem uL (r:GRat) (w:World) (h1:r.num.size<=500000000000) (h2:r.den.size<=500000000000) (c1:al (ah r.num)=r.num) (c2:al (ah r.den)=r.den) (h:r.num.size=0):
  Calls prog 152 #[aN r] w fun e w'=>e= .returned (.bool (!r.neg&&decide (r.den.size=0)))/\Below w.heap.size w w':=by
 have N1:=hid (fun w=>bH r.num w (by unfold maxLen;omega));have N2:=hid (fun w=>bH r.den w (by unfold maxLen;omega));rw [c1] at N1;rw [c2] at N2;obtain ⟨neg,num,den⟩:=r;simp only at *
 have hz:num={data:= #[]}:=ByteArray.ext (Array.eq_empty_of_size_eq_zero h);subst hz;unfold aN;simp only;clear c1 c2 h h1;cases neg
 ·by_cases hd:den.size=0
  ·have hz:den={data:= #[]}:=ByteArray.ext (Array.eq_empty_of_size_eq_zero hd);subst hz;clear hd h2;go_enter func152,ntmps152
   go_wp2
   go_quiet ((go_at_call 111;exact Calls.quiet_of_same ((N1.out _).mono fun e w' h=>⟨h.1,h.2.symm⟩)))
   go_wp2
   go_ret
   exact ⟨rfl,Below.drewN ((Below.refl _ _).alloc (Nat.le_refl _) _) _⟩
  have hne:=fy hd;have HR:=hid (show (!false&&decide (den.size=0))=false by simp [hd]);rw [HR.out];clear hd h2;go_enter func152,ntmps152
  go_wp2
  go_quiet ((first
   |(go_at_call_of 111 (Value.string {data:= #[]});exact Calls.quiet_of_same ((N1.out _).mono fun e w' h=>⟨h.1,h.2.symm⟩))
   |(go_at_call_of 111 (Value.string den);exact Calls.quiet_of_same ((N2.out _).mono fun e w' h=>⟨h.1,h.2.symm⟩))))
  go_wp2
  go_ret
  exact ⟨rfl,Below.drewN ((Below.refl _ _).alloc (Nat.le_refl _) _) _⟩
 have HR:=hid (show (!true&&decide (den.size=0))=false by simp);rw [HR.out];clear h2;go_enter func152,ntmps152
 go_wp2
 go_quiet ((first
  |(go_at_call_of 111 (Value.string {data:= #[]});exact Calls.quiet_of_same ((N1.out _).mono fun e w' h=>⟨h.1,h.2.symm⟩))
  |(go_at_call_of 111 (Value.string den);exact Calls.quiet_of_same ((N2.out _).mono fun e w' h=>⟨h.1,h.2.symm⟩))))
 go_wp2
 go_ret
 exact ⟨rfl,Below.drewN ((Below.refl _ _).alloc (Nat.le_refl _) _) _⟩
theorem gI:∀(l r:List UInt8),l.length=r.length->Lib.compareBytes l r=bj (aK l) (aK r)
 |[],[],_=>by simp [Lib.compareBytes,bj,aK]
 |[],_::_,h=>by simp at h
 |_::_,[],h=>by simp at h
 |a::l,b::r,h=>by
  have hl:l.length=r.length:=by simpa using h
  have ih:=gI l r hl;have h1:=eQ l;have h2:=eQ r;simp only [Lib.compareBytes];rw [ih,dD,dD,hl];rw [hl] at h1;have ha:(a<b)↔a.toNat<b.toNat:=UInt8.lt_iff_toNat_lt;have hb:(b<a)↔b.toNat<a.toNat:=UInt8.lt_iff_toNat_lt;generalize 256^r.length=P at *
  generalize aK l=x at *
  generalize aK r=y at *
  by_cases c1:a.toNat<b.toNat
  ·rw [if_pos (ha.2 c1)];have:=Nat.mul_le_mul_right P (show a.toNat+1<=b.toNat from c1);rw [Nat.add_mul] at this;unfold bj;rw [if_pos (by omega)]
  rw [if_neg (fun h=>c1 (ha.1 h))];by_cases c2:b.toNat<a.toNat
  ·rw [if_pos (hb.2 c2)];have:=Nat.mul_le_mul_right P (show b.toNat+1<=a.toNat from c2);rw [Nat.add_mul] at this;unfold bj;rw [if_neg (by omega),if_pos (by omega)]
  rw [if_neg (fun h=>c2 (hb.1 h))];have:a.toNat=b.toNat:=by omega
  rw [this];generalize b.toNat*P=q;unfold bj;simp only [Nat.add_lt_add_iff_left]
theorem JZ {x y:Nat} (h:(al x).size=(al y).size):Lib.compareBytes (al x).data.toList (al y).data.toList=bj x y:=by
 rw [bx,bx] at h;have:=gI (bv x) (bv y) h;rw [dg,dg] at this;simpa [al] using this
theorem fW {x y:Nat} (h:x<=y):(bv x).length<=(bv y).length:=ba (Nat.lt_of_le_of_lt h (gU y))
theorem o9 {x y:Nat} (h:(al x).size≠(al y).size):gb (((al x).size:Int)-((al y).size:Int))=bj x y:=by
 rw [bx,bx] at *
 unfold gb bj;by_cases c:x<y
 ·have:=fW (Nat.le_of_lt c);rw [if_pos c,if_pos (by omega)]
 have:=fW (Nat.le_of_not_lt c);rw [if_neg c,if_neg (by omega)];by_cases d:y<x
 ·rw [if_pos d];try rw [if_pos (by omega)]
 exfalso;have:x=y:=by omega
 subst this;exact h rfl
theorem cV (s:ByteArray):(al (ah s)).size<=s.size:=by rw [bx];exact ba (cQ s)
theorem pb (a b:ByteArray) (w:World) (ha:a.size<=maxLen) (hb:b.size<=maxLen):
  Calls prog 122 #[.string a,.string b] w fun e w'=>e= .returned (.int .i64 (bj (ah a) (ah b)))/\w=w':=by
 have H1:=hid (bH a w ha);have H2:=hid (bH b w hb);have sa:=cV a;have sb:=cV b;have hmx:(maxLen:Nat)<=9223372036854775807:=by unfold maxLen;omega
 have hsa:(al (ah a)).size<=9223372036854775807:=by omega
 have hsb:(al (ah b)).size<=9223372036854775807:=by omega
 by_cases h:(al (ah a)).size=(al (ah b)).size
 ·have HC:=hid (Tryz.strings_Compare (al (ah a)) (al (ah b)) w);rw [JZ h] at HC;generalize bj (ah a) (ah b)=c at *
  generalize al (ah a)=x at *
  generalize al (ah b)=y at *
  have hxy:¬((x.size:Int)≠(y.size:Int)):=by omega
  clear sa sb ha hb hmx;go_enter func122,ntmps122
  go_wp2_with fail
  refine Calls.mono H1.out ?_;rintro e w1 ⟨rfl,rfl⟩;go_wp2_with fail
  refine Calls.mono H2.out ?_;rintro e w1 ⟨rfl,rfl⟩;go_wp2_with fail
  refine Calls.mono HC.out ?_;rintro e w1 ⟨rfl,rfl⟩;go_wp2
  go_ret
  exact ⟨rfl,rfl⟩
 have HC:=hid (AB (((al (ah a)).size:Int)-((al (ah b)).size:Int)) w);rw [o9 h] at HC;generalize bj (ah a) (ah b)=c at *
 generalize al (ah a)=x at *
 generalize al (ah b)=y at *
 have hxy:((x.size:Int)≠(y.size:Int)):=by omega
 clear sa sb ha hb hmx h;go_enter func122,ntmps122
 go_wp2_with fail
 refine Calls.mono H1.out ?_;rintro e w1 ⟨rfl,rfl⟩;go_wp2_with fail
 refine Calls.mono H2.out ?_;rintro e w1 ⟨rfl,rfl⟩;go_wp2_with fail
 refine Calls.mono HC.out ?_;rintro e w1 ⟨rfl,rfl⟩;go_wp2
 go_ret
 exact ⟨rfl,rfl⟩
theorem fB {n:Nat} (h:n≠1):al n≠{data:= #[1]}:=by
 intro e;rw [←bV] at e;exact h (i5 e)
theorem uM (r:GRat) (w:World) (h1:r.num.size<=500000000000) (h2:r.den.size<=500000000000) (c1:al (ah r.num)=r.num) (c2:al (ah r.den)=r.den) (h:¬r.num.size=0):
  Calls prog 152 #[aN r] w fun e w'=>e= .returned (.bool (decide (r.den.size=0)||(decide (ah r.den≠1)&&decide (Nat.gcd (ah r.num) (ah r.den)=1))))/\Below w.heap.size w w':=by
 have N1:=hid (fun w=>bH r.num w (by unfold maxLen;omega));have N2:=hid (fun w=>bH r.den w (by unfold maxLen;omega));rw [c1] at N1;rw [c2] at N2;have G:=hid (fun w=>rN r.num r.den w h1 h2);obtain ⟨neg,num,den⟩:=r;simp only at *
 have hne:=fy h;unfold aN;simp only;by_cases hd:den.size=0
 ·have hz:den={data:= #[]}:=ByteArray.ext (Array.eq_empty_of_size_eq_zero hd);subst hz;clear hd h2 c1 c2 h h1 G;go_enter func152,ntmps152
  go_wp2
  go_quiet ((first
   |(go_at_call_of 111 (Value.string num);exact Calls.quiet_of_same ((N1.out _).mono fun e w' h=>⟨h.1,h.2.symm⟩))
   |(go_at_call_of 111 (Value.string {data:= #[]});exact Calls.quiet_of_same ((N2.out _).mono fun e w' h=>⟨h.1,h.2.symm⟩))))
  go_wp2
  go_ret
  exact ⟨rfl,Below.drewN ((Below.refl _ _).alloc (Nat.le_refl _) _) _⟩
 have hne2:=fy hd;by_cases ho:ah den=1
 ·rw [ho,bV] at c2;subst c2;have HR:=hid (show (decide (({data:= #[1]}:ByteArray).size=0)||(decide (ah {data:= #[1]}≠1)&&decide (Nat.gcd (ah num) (ah {data:= #[1]})=1)))=false by rw [ho];simp only [ne_eq,not_true,decide_false,Bool.false_and,Bool.or_false];exact decide_eq_false hd);rw [HR.out];clear hd h2 c1 h h1 G ho hne2;go_enter func152,ntmps152
  go_wp2
  go_quiet ((first
   |(go_at_call_of 111 (Value.string num);exact Calls.quiet_of_same ((N1.out _).mono fun e w' h=>⟨h.1,h.2.symm⟩))
   |(go_at_call_of 111 (Value.string {data:= #[1]});exact Calls.quiet_of_same ((N2.out _).mono fun e w' h=>⟨h.1,h.2.symm⟩))))
  go_wp2
  go_ret
  exact ⟨rfl,Below.drewN ((Below.refl _ _).alloc (Nat.le_refl _) _) _⟩
 have hn1:=fh (s:=den) (fun e=>ho (by rw [e,←bV];exact aw 1));by_cases hg:Nat.gcd (ah num) (ah den)=1
 ·rw [hg,bV] at G;have HR:=hid (show (decide (den.size=0)||(decide (ah den≠1)&&decide (Nat.gcd (ah num) (ah den)=1)))=true by simp [ho,hg]);rw [HR.out];clear hd h2 c1 c2 h h1 ho hg;go_enter func152,ntmps152
  go_wp2
  go_quiet ((first
   |(go_at_call_of 111 (Value.string num);exact Calls.quiet_of_same ((N1.out _).mono fun e w' h=>⟨h.1,h.2.symm⟩))
   |(go_at_call_of 111 (Value.string den);exact Calls.quiet_of_same ((N2.out _).mono fun e w' h=>⟨h.1,h.2.symm⟩))))
  go_wp2_with fail
  refine Calls.mono (G.out _) ?_;rintro e w1 ⟨rfl,hb1⟩;go_wp2
  go_ret
  exact ⟨rfl,Below.step (Below.drewN ((Below.refl _ _).alloc (Nat.le_refl _) _) _) hb1⟩
 have hn3:=fh (fB hg);have HR:=hid (show (decide (den.size=0)||(decide (ah den≠1)&&decide (Nat.gcd (ah num) (ah den)=1)))=false by simp [hd,hg]);rw [HR.out];generalize al (Nat.gcd (ah num) (ah den))=gs at *
 clear hd h2 c1 c2 h h1 ho hg HR;go_enter func152,ntmps152
 go_wp2
 go_quiet ((first
  |(go_at_call_of 111 (Value.string num);exact Calls.quiet_of_same ((N1.out _).mono fun e w' h=>⟨h.1,h.2.symm⟩))
  |(go_at_call_of 111 (Value.string den);exact Calls.quiet_of_same ((N2.out _).mono fun e w' h=>⟨h.1,h.2.symm⟩))))
 go_wp2_with fail
 refine Calls.mono (G.out _) ?_;rintro e w1 ⟨rfl,hb1⟩;go_wp2
 go_ret
 exact ⟨rfl,Below.step (Below.drewN ((Below.refl _ _).alloc (Nat.le_refl _) _) _) hb1⟩
theorem qM (r:GRat) (w:World) (h1:r.num.size<=500000000000) (h2:r.den.size<=500000000000):
  Calls prog 152 #[aN r] w fun e w'=>e= .returned (.bool (cE r))/\Below w.heap.size w w':=by
 by_cases c1:al (ah r.num)=r.num
 ·by_cases c2:al (ah r.den)=r.den
  ·by_cases h:r.num.size=0
   ·rw [lv c1 c2 h];exact uL r w h1 h2 c1 c2 h
   rw [lw c1 c2 h];exact uM r w h1 h2 c1 c2 h
  rw [o8 c2];exact uK r w h1 h2 c1 c2
 rw [Kq c1];exact uJ r w h1 c1
theorem cW (r:GRat) (w:World) (h1:r.num.size<=500000000000) (h2:r.den.size<=500000000000):
  Calls prog 108 #[aN r] w fun e w'=>e= .returned (aN (enc (qOf r)))/\Below w.heap.size w w':=by
 have V:=hid (fun w=>qM r w h1 h2);have hx0:=hid (Bx2.new w r gZ);clear h1 h2;by_cases h:cE r=true
 ·rw [qG h];rw [h] at V;unfold aN;clear h;go_enter func108,ntmps108
  go_wp2_with fail
  refine Calls.mono (V.out _) ?_;rintro e w1 ⟨rfl,hb1⟩;have hx1:=hx0.out.next hb1;obtain ⟨x0,x1,x2,x3,x4⟩:=hx1.1.facts;obtain ⟨t0,t1,t2,t3,t4⟩:=hx1.2.1.facts;go_wp2
  refine bC (hx1.ret _).1 (fun W' c0 c1 c2=>by simp [results,Tryz.results108,go_sem,c0,c1,c2]) rfl ⟨rfl,(hx1.ret _).2⟩
 have h':cE r=false:=by simpa using h
 rw [nA h',←ln];rw [h'] at V;unfold aN;clear h h';go_enter func108,ntmps108
 go_wp2_with fail
 refine Calls.mono (V.out _) ?_;rintro e w1 ⟨rfl,hb1⟩;have hx1:=hx0.out.next hb1;obtain ⟨t0,t1,t2,t3,t4⟩:=hx1.2.1.facts;go_wp2
 refine bC (hx1.ret gZ).1 (fun W' c0 c1 c2=>by simp [results,Tryz.results108,go_sem,c0,c1,c2]) rfl ⟨rfl,(hx1.ret gZ).2⟩
theorem uN (r:GRat) (w:World) (h1:r.num.size<=500000000000) (c1:al (ah r.num)≠r.num):
  Calls prog 86 #[aN r] w fun e w'=>e= .returned (.bool false)/\Below w.heap.size w w':=by
 have N1:=hid (fun w=>bG r.num w (by unfold maxLen;omega));obtain ⟨neg,num,den⟩:=r;simp only at *
 generalize al (ah num)=s at *
 have e1:=lu c1;unfold aN;simp only;clear c1;go_enter func86,ntmps86
 go_wp2
 go_quiet ((go_at_call 125;exact Calls.quiet_of_same ((N1.out _).mono fun e w' h=>⟨h.1,h.2.symm⟩)))
 go_wp2
 go_ret
 exact ⟨rfl,Below.drewN ((Below.refl _ _).alloc (Nat.le_refl _) _) _⟩
theorem uO (r:GRat) (w:World) (h1:r.num.size<=500000000000) (h2:r.den.size<=500000000000) (c1:al (ah r.num)=r.num) (c2:al (ah r.den)≠r.den):
  Calls prog 86 #[aN r] w fun e w'=>e= .returned (.bool false)/\Below w.heap.size w w':=by
 have N1:=hid (fun w=>bG r.num w (by unfold maxLen;omega));have N2:=hid (fun w=>bG r.den w (by unfold maxLen;omega));rw [c1] at N1;obtain ⟨neg,num,den⟩:=r;simp only at *
 generalize al (ah den)=s at *
 have e1:=lu c2;unfold aN;simp only;clear c1 c2;go_enter func86,ntmps86
 go_wp2
 go_quiet ((first
  |(go_at_call_of 125 (Value.string num);exact Calls.quiet_of_same ((N1.out _).mono fun e w' h=>⟨h.1,h.2.symm⟩))
  |(go_at_call_of 125 (Value.string den);exact Calls.quiet_of_same ((N2.out _).mono fun e w' h=>⟨h.1,h.2.symm⟩))))
 go_wp2
 go_ret
 exact ⟨rfl,Below.drewN ((Below.refl _ _).alloc (Nat.le_refl _) _) _⟩
theorem uP (r:GRat) (w:World) (h1:r.num.size<=500000000000) (h2:r.den.size<=500000000000) (c1:al (ah r.num)=r.num) (c2:al (ah r.den)=r.den) (h:r.num.size=0) (ho:ah r.den≠1):
  Calls prog 86 #[aN r] w fun e w'=>e= .returned (.bool (!r.neg&&decide (r.den.size=0)))/\Below w.heap.size w w':=by
 have N1:=hid (fun w=>bG r.num w (by unfold maxLen;omega));have N2:=hid (fun w=>bG r.den w (by unfold maxLen;omega));rw [c1] at N1;rw [c2] at N2;obtain ⟨neg,num,den⟩:=r;simp only at *
 have hz:num={data:= #[]}:=ByteArray.ext (Array.eq_empty_of_size_eq_zero h);subst hz;unfold aN;simp only;clear c1 c2 h h1;cases neg
 ·by_cases hd:den.size=0
  ·have hz:den={data:= #[]}:=ByteArray.ext (Array.eq_empty_of_size_eq_zero hd);subst hz;clear hd h2 ho;have hn1:((({data:= #[]}:ByteArray).toList)==[1])=false:=by rw [ByteArray.toList_eq];rfl
   go_enter func86,ntmps86
   go_wp2
   go_quiet ((go_at_call 125;exact Calls.quiet_of_same ((N1.out _).mono fun e w' h=>⟨h.1,h.2.symm⟩)))
   go_wp2
   go_ret
   exact ⟨rfl,Below.drewN ((Below.refl _ _).alloc (Nat.le_refl _) _) _⟩
  have hne:=fy hd;have HR:=hid (show (!false&&decide (den.size=0))=false by simp [hd]);rw [HR.out];have hn1:=fh (s:=den) (fun e=>ho (by rw [e,←bV];exact aw 1));clear hd h2 ho;go_enter func86,ntmps86
  go_wp2
  go_quiet ((first
   |(go_at_call_of 125 (Value.string {data:= #[]});exact Calls.quiet_of_same ((N1.out _).mono fun e w' h=>⟨h.1,h.2.symm⟩))
   |(go_at_call_of 125 (Value.string den);exact Calls.quiet_of_same ((N2.out _).mono fun e w' h=>⟨h.1,h.2.symm⟩))))
  go_wp2
  go_ret
  exact ⟨rfl,Below.drewN ((Below.refl _ _).alloc (Nat.le_refl _) _) _⟩
 have HR:=hid (show (!true&&decide (den.size=0))=false by simp);rw [HR.out];have hn1:=fh (s:=den) (fun e=>ho (by rw [e,←bV];exact aw 1));clear h2 ho;go_enter func86,ntmps86
 go_wp2
 go_quiet ((first
  |(go_at_call_of 125 (Value.string {data:= #[]});exact Calls.quiet_of_same ((N1.out _).mono fun e w' h=>⟨h.1,h.2.symm⟩))
  |(go_at_call_of 125 (Value.string den);exact Calls.quiet_of_same ((N2.out _).mono fun e w' h=>⟨h.1,h.2.symm⟩))))
 go_wp2
 go_ret
 exact ⟨rfl,Below.drewN ((Below.refl _ _).alloc (Nat.le_refl _) _) _⟩
theorem uQ (r:GRat) (w:World) (h1:r.num.size<=500000000000) (h2:r.den.size<=500000000000) (c1:al (ah r.num)=r.num) (c2:al (ah r.den)=r.den) (ho:ah r.den=1):
  Calls prog 86 #[aN r] w fun e w'=>e= .returned (.bool false)/\Below w.heap.size w w':=by
 have N1:=hid (fun w=>bG r.num w (by unfold maxLen;omega));have N2:=hid (fun w=>bG r.den w (by unfold maxLen;omega));rw [c1] at N1;rw [c2] at N2;obtain ⟨neg,num,den⟩:=r;simp only at *
 rw [ho,bV] at c2;subst c2;unfold aN;simp only;clear c1 h1 h2 ho;go_enter func86,ntmps86
 go_wp2
 go_quiet ((first
  |(go_at_call_of 125 (Value.string num);exact Calls.quiet_of_same ((N1.out _).mono fun e w' h=>⟨h.1,h.2.symm⟩))
  |(go_at_call_of 125 (Value.string {data:= #[1]});exact Calls.quiet_of_same ((N2.out _).mono fun e w' h=>⟨h.1,h.2.symm⟩))))
 go_wp2
 go_ret
 exact ⟨rfl,Below.drewN ((Below.refl _ _).alloc (Nat.le_refl _) _) _⟩
theorem uR (r:GRat) (w:World) (h1:r.num.size<=500000000000) (h2:r.den.size<=500000000000) (c1:al (ah r.num)=r.num) (c2:al (ah r.den)=r.den) (h:¬r.num.size=0) (ho:ah r.den≠1):
  Calls prog 86 #[aN r] w fun e w'=>e= .returned (.bool (decide (r.den.size=0)||(decide (ah r.den≠1)&&decide (Nat.gcd (ah r.num) (ah r.den)=1))))/\Below w.heap.size w w':=by
 have N1:=hid (fun w=>bG r.num w (by unfold maxLen;omega));have N2:=hid (fun w=>bG r.den w (by unfold maxLen;omega));rw [c1] at N1;rw [c2] at N2;have G:=hid (fun w=>uH r.num r.den w h1 h2);obtain ⟨neg,num,den⟩:=r;simp only at *
 have hne:=fy h;unfold aN;simp only;by_cases hd:den.size=0
 ·have hz:den={data:= #[]}:=ByteArray.ext (Array.eq_empty_of_size_eq_zero hd);subst hz;clear hd h2 c1 c2 h h1 G ho;have hn1:((({data:= #[]}:ByteArray).toList)==[1])=false:=by rw [ByteArray.toList_eq];rfl
  go_enter func86,ntmps86
  go_wp2
  go_quiet ((first
   |(go_at_call_of 125 (Value.string num);exact Calls.quiet_of_same ((N1.out _).mono fun e w' h=>⟨h.1,h.2.symm⟩))
   |(go_at_call_of 125 (Value.string {data:= #[]});exact Calls.quiet_of_same ((N2.out _).mono fun e w' h=>⟨h.1,h.2.symm⟩))))
  go_wp2
  go_ret
  exact ⟨rfl,Below.drewN ((Below.refl _ _).alloc (Nat.le_refl _) _) _⟩
 have hne2:=fy hd;have hn1:=fh (s:=den) (fun e=>ho (by rw [e,←bV];exact aw 1));by_cases hg:Nat.gcd (ah num) (ah den)=1
 ·rw [hg,bV] at G;have HR:=hid (show (decide (den.size=0)||(decide (ah den≠1)&&decide (Nat.gcd (ah num) (ah den)=1)))=true by simp [ho,hg]);rw [HR.out];clear hd h2 c1 c2 h h1 ho hg;go_enter func86,ntmps86
  go_wp2
  go_quiet ((first
   |(go_at_call_of 125 (Value.string num);exact Calls.quiet_of_same ((N1.out _).mono fun e w' h=>⟨h.1,h.2.symm⟩))
   |(go_at_call_of 125 (Value.string den);exact Calls.quiet_of_same ((N2.out _).mono fun e w' h=>⟨h.1,h.2.symm⟩))))
  go_wp2_with fail
  refine Calls.mono (G.out _) ?_;rintro e w1 ⟨rfl,hb1⟩;go_wp2
  go_ret
  exact ⟨rfl,Below.step (Below.drewN ((Below.refl _ _).alloc (Nat.le_refl _) _) _) hb1⟩
 have hn3:=fh (fB hg);have HR:=hid (show (decide (den.size=0)||(decide (ah den≠1)&&decide (Nat.gcd (ah num) (ah den)=1)))=false by simp [hd,hg]);rw [HR.out];generalize al (Nat.gcd (ah num) (ah den))=gs at *
 clear hd h2 c1 c2 h h1 ho hg HR;go_enter func86,ntmps86
 go_wp2
 go_quiet ((first
  |(go_at_call_of 125 (Value.string num);exact Calls.quiet_of_same ((N1.out _).mono fun e w' h=>⟨h.1,h.2.symm⟩))
  |(go_at_call_of 125 (Value.string den);exact Calls.quiet_of_same ((N2.out _).mono fun e w' h=>⟨h.1,h.2.symm⟩))))
 go_wp2_with fail
 refine Calls.mono (G.out _) ?_;rintro e w1 ⟨rfl,hb1⟩;go_wp2
 go_ret
 exact ⟨rfl,Below.step (Below.drewN ((Below.refl _ _).alloc (Nat.le_refl _) _) _) hb1⟩
theorem qN (r:GRat) (w:World) (h1:r.num.size<=500000000000) (h2:r.den.size<=500000000000):
  Calls prog 86 #[aN r] w fun e w'=>e= .returned (.bool (cE r))/\Below w.heap.size w w':=by
 by_cases c1:al (ah r.num)=r.num
 ·by_cases c2:al (ah r.den)=r.den
  ·by_cases ho:ah r.den=1
   ·have hd:¬r.den.size=0:=fun h=>by rw [lk h] at ho;cases ho
    have hf:cE r=false:=by
     by_cases h:r.num.size=0
     ·rw [lv c1 c2 h];simp [hd]
     rw [lw c1 c2 h];simp [hd,ho]
    rw [hf];exact uQ r w h1 h2 c1 c2 ho
   by_cases h:r.num.size=0
   ·rw [lv c1 c2 h];exact uP r w h1 h2 c1 c2 h ho
   rw [lw c1 c2 h];exact uR r w h1 h2 c1 c2 h ho
  rw [o8 c2];exact uO r w h1 h2 c1 c2
 rw [Kq c1];exact uN r w h1 c1
theorem uS (r:GRat) (w:World) (h1:r.num.size<=500000000000) (h2:r.den.size<=500000000000):
  Calls prog 41 #[aN r] w fun e w'=>e= .returned (aN (enc (qOf r)))/\Below w.heap.size w w':=by
 have V:=hid (fun w=>qN r w h1 h2);have hx0:=hid (Bx2.new w r gZ);clear h1 h2;by_cases h:cE r=true
 ·rw [qG h];rw [h] at V;unfold aN;clear h;go_enter func41,ntmps41
  go_wp2_with fail
  refine Calls.mono (V.out _) ?_;rintro e w1 ⟨rfl,hb1⟩;have hx1:=hx0.out.next hb1;obtain ⟨x0,x1,x2,x3,x4⟩:=hx1.1.facts;obtain ⟨t0,t1,t2,t3,t4⟩:=hx1.2.1.facts;go_wp2
  refine bC (hx1.ret _).1 (fun W' c0 c1 c2=>by simp [results,Tryz.results41,go_sem,c0,c1,c2]) rfl ⟨rfl,(hx1.ret _).2⟩
 have h':cE r=false:=by simpa using h
 rw [nA h',←ln];rw [h'] at V;unfold aN;clear h h';go_enter func41,ntmps41
 go_wp2_with fail
 refine Calls.mono (V.out _) ?_;rintro e w1 ⟨rfl,hb1⟩;have hx1:=hx0.out.next hb1;obtain ⟨t0,t1,t2,t3,t4⟩:=hx1.2.1.facts;go_wp2
 refine bC (hx1.ret gZ).1 (fun W' c0 c1 c2=>by simp [results,Tryz.results41,go_sem,c0,c1,c2]) rfl ⟨rfl,(hx1.ret gZ).2⟩
theorem jA (q:Rat) (w:World):Calls prog 124 #[aN (enc q)] w fun e w'=>e= .returned (.string (al q.den))/\Below w.heap.size w w':=by
 by_cases h:q.den=1
 ·have e1:(enc q).den={data:= #[]}:=by unfold enc;simp only [h,if_true];rfl
  rw [h,bV];unfold aN;rw [e1];generalize enc q=a at *
  clear h e1;go_enter func124,ntmps124
  go_wp2
  go_ret
  exact ⟨rfl,(Below.refl _ _).alloc (Nat.le_refl _) _⟩
 have e1:(enc q).den=al q.den:=by unfold enc;simp only [h,if_false]
 have hne:=fy (fp q.den_nz);unfold aN;rw [e1];generalize al q.den=d at *
 generalize enc q=a at *
 clear h e1;go_enter func124,ntmps124
 go_wp2
 go_ret
 exact ⟨rfl,(Below.refl _ _).alloc (Nat.le_refl _) _⟩
theorem g8 (r:GRat) (w:World):Calls prog 115 #[aN r] w fun e w'=>e= .returned (.int .i64 (gW r))/\Below w.heap.size w w':=by
 unfold aN;by_cases h:r.num.size=0
 ·have hz:r.num={data:= #[]}:=ByteArray.ext (Array.eq_empty_of_size_eq_zero h);have hR:=hid (show gW r=0 by unfold gW;rw [if_pos h]);rw [hz];clear h hz;go_enter func115,ntmps115
  go_wp2
  go_ret
  exact ⟨bI hR.out.symm,(Below.refl _ _).alloc (Nat.le_refl _) _⟩
 have hz:=fy h;cases hn:r.neg with
 |true=>
  have hR:=hid (show gW r= -1 by unfold gW;rw [if_neg h,if_pos hn]);clear h hn;go_enter func115,ntmps115
  go_wp2
  go_ret
  exact ⟨bI hR.out.symm,(Below.refl _ _).alloc (Nat.le_refl _) _⟩
 |false=>
  have hR:=hid (show gW r=1 by unfold gW;rw [if_neg h,if_neg (by rw [hn];decide)]);clear h hn;go_enter func115,ntmps115
  go_wp2
  go_ret
  exact ⟨bI hR.out.symm,(Below.refl _ _).alloc (Nat.le_refl _) _⟩
theorem pd (r:GRat) (w:World) (hv:r.num.size=0->r.neg=false):Calls prog 110 #[aN r] w fun e w'=>e= .returned (aN (tf r))/\Below w.heap.size w w':=by
 by_cases h:r.num.size=0
 ·have hz:r.num={data:= #[]}:=ByteArray.ext (Array.eq_empty_of_size_eq_zero h);have hn:=hv h;have hR:=hid (show tf r=r by unfold tf;rw [if_pos h]);rw [hR.out];unfold aN;rw [hz,hn];clear h hz hn hv;go_enter func110,ntmps110
  go_wp2
  go_returns
  exact ⟨rfl,((Below.refl _ _).alloc (Nat.le_refl _) _).alloc (by simp) _⟩
 have hz:=fy h;have hR:=hid (show tf r=⟨!r.neg,r.num,r.den⟩ by unfold tf;rw [if_neg h]);rw [hR.out];unfold aN;clear h hv;cases hn:r.neg
 ·clear hn;go_enter func110,ntmps110
  go_wp2
  go_returns
  exact ⟨rfl,((Below.refl _ _).alloc (Nat.le_refl _) _).alloc (by simp) _⟩
 clear hn;go_enter func110,ntmps110
 go_wp2
 go_returns
 exact ⟨rfl,((Below.refl _ _).alloc (Nat.le_refl _) _).alloc (by simp) _⟩
theorem J0 (n:Int) (w:World) (h0: -9223372036854775808<=n) (h1:n<=9223372036854775807):Calls prog 72 #[.int .i64 n] w fun e w'=>e= .returned (.string (al n.natAbs))/\Below w.heap.size w w':=by
 have F:=hid (fun w=>np n.natAbs w (by omega));by_cases h:n<0
 ·have e1:IntKind.u64.wrap (-(IntKind.u64.wrap n))=(n.natAbs:Int):=by rw [IntKind.wrap_u64,IntKind.wrap_u64];omega
  go_enter func72,ntmps72
  go_wp2_with fail
  refine Calls.mono (F.out _) ?_;rintro e w1 ⟨rfl,hb1⟩;go_wp2
  go_ret
  exact ⟨rfl,hb1⟩
 have e1:n=(n.natAbs:Int):=by omega
 have F2:=hid (fun w=>F.out w);rw [←e1] at F2;clear F e1;go_enter func72,ntmps72
 go_wp2_with fail
 refine Calls.mono (F2.out _) ?_;rintro e w1 ⟨rfl,hb1⟩;go_wp2
 go_ret
 exact ⟨rfl,hb1⟩
theorem uT:al 0={data:= #[]}:=gf
theorem fj (neg:Bool) (a b:ByteArray) (w:World) (ha:a.size<=400000000000) (hb:b.size<=400000000000) (hd:0<ah b):
  Calls prog 71 #[.bool neg,.string a,.string b] w fun e w'=>e= .returned (aN (enc (mkRat (sg neg (ah a)) (ah b))))/\Below w.heap.size w w':=by
 have N1:=hid (fun w=>bH a w (by unfold maxLen;omega));have N2:=hid (fun w=>bH b w (by unfold maxLen;omega));have sa:=cV a;have sb:=cV b;have hx0:=hid (Bx1.new w);generalize ah a=N at *
 generalize ah b=D at *
 by_cases hN:N=0
 ·subst hN;rw [rL,Rat.zero_mkRat,←ln];rw [uT] at N1;unfold aN;clear ha hb sa sb hd;generalize al D=d at *
  go_enter func71,ntmps71
  go_wp2_with fail
  refine Calls.mono (N1.out _) ?_;rintro e w1 ⟨rfl,rfl⟩;go_wp2_with fail
  refine Calls.mono (N2.out _) ?_;rintro e w1 ⟨rfl,rfl⟩;go_wp2
  go_returns
  exact ⟨rfl,(Below.refl _ _).alloc (Nat.le_refl _) _⟩
 have hE:=mG (neg:=neg) (n:=N) (d:=D) hN (by omega);rw [hE];unfold aN;simp only;have hn1:=fy (fp hN);obtain ⟨g,hg⟩:∃g,g=Nat.gcd N D:=⟨_,rfl⟩;have hg0:0<g:=by rw [hg];exact Nat.gcd_pos_of_pos_right _ hd
 have G:=hid (fun w=>rN (al N) (al D) w (by omega) (by omega));simp only [aw] at G;rw [←hg] at G ⊢;have sg':(al g).size<=500000000000:=by
  have:(al g).size<=(al N).size:=by
   rw [bx,bx];exact fW (by rw [hg];exact Nat.gcd_le_left _ (by omega))
  omega
 have D1:=hid (fun w=>mJ (al N) (al g) w (by omega) sg' (by rw [aw];exact hg0));have D2:=hid (fun w=>mJ (al D) (al g) w (by omega) sg' (by rw [aw];exact hg0));simp only [aw] at D1 D2;by_cases hD:D=1
 ·subst hD;have hg1:g=1:=by rw [hg];exact Nat.gcd_one_right N
  subst hg1;have HR:=hid (show al (N/1)=al N/\(if 1/1=1 then cc else al (1/1))=({data:= #[]}:ByteArray) from ⟨by rw [Nat.div_one],rfl⟩);rw [HR.out.1,HR.out.2];rw [bV] at N2;generalize al N=n at *
  clear G D1 D2 hE hg hg0 hd sa sb sg' ha hb hN HR;go_enter func71,ntmps71
  go_wp2_with fail
  refine Calls.mono (N1.out _) ?_;rintro e w1 ⟨rfl,rfl⟩;go_wp2_with fail
  refine Calls.mono (N2.out _) ?_;rintro e w1 ⟨rfl,rfl⟩;go_wp2
  go_returns
  exact ⟨rfl,(Below.refl _ _).alloc (Nat.le_refl _) _⟩
 have hd1:=fh (fB hD);by_cases hg1:g=1
 ·have HR:=hid (show al (N/g)=al N/\(if D/g=1 then cc else al (D/g))=al D from ⟨by rw [hg1,Nat.div_one],by rw [hg1,Nat.div_one,if_neg hD]⟩);rw [HR.out.1,HR.out.2];rw [hg1,bV] at G;generalize al N=n at *
  generalize al D=d at *
  clear D1 D2 hE hg hg0 hd sa sb sg' ha hb hN HR hD hg1;go_enter func71,ntmps71
  go_wp2_with fail
  refine Calls.mono (N1.out _) ?_;rintro e w1 ⟨rfl,rfl⟩;go_wp2_with fail
  refine Calls.mono (N2.out _) ?_;rintro e w1 ⟨rfl,rfl⟩;go_wp2_with fail
  refine Calls.mono (G.out _) ?_;rintro e w1 ⟨rfl,hb1⟩;have hx1:=hx0.out.next hb1;obtain ⟨x0,x1,x2,x3,x4⟩:=hx1.1.facts;go_wp2
  have S:=hx1.ret ⟨neg,n,d⟩;dsimp only at S;refine bC S.1 (fun W' c0 c1 c2=>by simp [results,Tryz.results71,go_sem,c0,c1,c2]) rfl ⟨rfl,S.2⟩
 have hgs:=fh (fB hg1);obtain ⟨n',hn'⟩:∃n',n'=al (N/g):=⟨_,rfl⟩;rw [←hn'] at D1 ⊢;by_cases hq:D/g=1
 ·rw [hq,bV] at D2;have HR:=hid (show (if D/g=1 then cc else al (D/g))=({data:= #[]}:ByteArray) by rw [if_pos hq];rfl);rw [HR.out];generalize al (N%g)=n2 at *
  generalize al (D%g)=n3 at *
  generalize al N=n at *
  generalize al D=d at *
  generalize al g=gs at *
  clear hE hg hg0 hd sa sb sg' ha hb hN HR hD hg1 hq hn';go_enter func71,ntmps71
  go_wp2_with fail
  refine Calls.mono (N1.out _) ?_;rintro e w1 ⟨rfl,rfl⟩;go_wp2_with fail
  refine Calls.mono (N2.out _) ?_;rintro e w1 ⟨rfl,rfl⟩;go_wp2_with fail
  refine Calls.mono (G.out _) ?_;rintro e w1 ⟨rfl,hb1⟩;go_wp2_with fail
  refine Calls.mono (D1.out _) ?_;rintro e w2 ⟨rfl,hb2⟩;go_wp2_with fail
  refine Calls.mono (D2.out _) ?_;rintro e w3 ⟨rfl,hb3⟩;have hx1:=((hx0.out.next hb1).next hb2).next hb3;obtain ⟨x0,x1,x2,x3,x4⟩:=hx1.1.facts;go_wp2
  have S:=hx1.ret ⟨neg,n',{data:= #[]}⟩;dsimp only at S;refine bC S.1 (fun W' c0 c1 c2=>by simp [results,Tryz.results71,go_sem,c0,c1,c2]) rfl ⟨rfl,S.2⟩
 have hqs:=fh (fB hq);have HR:=hid (show (if D/g=1 then cc else al (D/g))=al (D/g) by rw [if_neg hq]);rw [HR.out];generalize al (N%g)=n2 at *
 generalize al (D%g)=n3 at *
 generalize al (D/g)=d' at *
 generalize al N=n at *
 generalize al D=d at *
 generalize al g=gs at *
 clear hE hg hg0 hd sa sb sg' ha hb hN HR hD hg1 hq hn';go_enter func71,ntmps71
 go_wp2_with fail
 refine Calls.mono (N1.out _) ?_;rintro e w1 ⟨rfl,rfl⟩;go_wp2_with fail
 refine Calls.mono (N2.out _) ?_;rintro e w1 ⟨rfl,rfl⟩;go_wp2_with fail
 refine Calls.mono (G.out _) ?_;rintro e w1 ⟨rfl,hb1⟩;go_wp2_with fail
 refine Calls.mono (D1.out _) ?_;rintro e w2 ⟨rfl,hb2⟩;go_wp2_with fail
 refine Calls.mono (D2.out _) ?_;rintro e w3 ⟨rfl,hb3⟩;have hx1:=((hx0.out.next hb1).next hb2).next hb3;obtain ⟨x0,x1,x2,x3,x4⟩:=hx1.1.facts;go_wp2
 have S:=hx1.ret ⟨neg,n',d'⟩;dsimp only at S;refine bC S.1 (fun W' c0 c1 c2=>by simp [results,Tryz.results71,go_sem,c0,c1,c2]) rfl ⟨rfl,S.2⟩
theorem tl (z:Int):mkRat z 1=(z:Rat):=Rat.mkRat_self (z:Rat)
theorem CQ (n:Int) (w:World) (h0: -9223372036854775808<=n) (h1:n<=9223372036854775807):Calls prog 33 #[.int .i64 n] w fun e w'=>e= .returned (aN (enc (n:Rat)))/\Below w.heap.size w w':=by
 have M:=hid (fun w=>J0 n w h0 h1);have hs:(al n.natAbs).size<=8:=by rw [bx];exact ba (by omega)
 have R:=hid (fun w=>fj (decide (n<0)) (al n.natAbs) {data:= #[1]} w (by omega) (by show 1<=_;decide) (by decide));have e1:ah {data:= #[1]}=1:=by rw [←bV,aw]
 rw [aw,e1,xU,tl] at R;have hx0:=hid (Bx1.new w);generalize enc (n:Rat)=a at *
 generalize al n.natAbs=s at *
 unfold aN;clear e1 hs;go_enter func33,ntmps33
 go_wp2_with fail
 refine Calls.mono (M.out _) ?_;rintro e w1 ⟨rfl,hb1⟩;go_wp2_with fail
 refine Calls.mono (R.out _) ?_;rintro e w2 ⟨rfl,hb2⟩;unfold aN;have hx1:=(hx0.out.next hb1).next hb2;obtain ⟨x0,x1,x2,x3,x4⟩:=hx1.1.facts;go_wp2
 refine bC (hx1.ret _).1 (fun W' c0 c1 c2=>by simp [results,Tryz.results33,go_sem,c0,c1,c2]) rfl ⟨rfl,(hx1.ret _).2⟩
theorem K1 (r:GRat) (w:World) (h1:r.num.size<=500000000000) (h2:r.den.size<=500000000000):
  Calls prog 73 #[aN r] w fun e w'=>e= .returned (.int .i64 (aL (qOf r)))/\Below w.heap.size w w':=by
 have C:=hid (fun w=>cW r w h1 h2);have S:=hid (fun w=>g8 (enc (qOf r)) w);rw [lp] at S;generalize enc (qOf r)=a at *
 generalize aL (qOf r)=s at *
 unfold aN;clear h1 h2;go_enter func73,ntmps73
 go_wp2_with fail
 refine Calls.mono (C.out _) ?_;rintro e w1 ⟨rfl,hb1⟩;go_wp2_with fail
 refine Calls.mono (S.out _) ?_;rintro e w2 ⟨rfl,hb2⟩;go_wp2
 go_ret
 exact ⟨rfl,Below.step (((Below.refl _ _).alloc (Nat.le_refl _) _).step hb1) hb2⟩
theorem uU (n:Int) (w:World) (h0: -9223372036854775808<=n) (h1:n<=9223372036854775807):Calls prog 31 #[.int .i64 n] w fun e w'=>e= .returned (aN (enc (n:Rat)))/\Below w.heap.size w w':=by
 have S:=hid (fun w=>li n w h0 h1);have F:=hid (fun w=>fU n.natAbs w (by omega));rw [wW];have hx0:=hid (Bx1.new w);generalize al n.natAbs=s at *
 generalize ((n.natAbs:Nat):Int)=u at *
 unfold aN cc;simp only;go_enter func31,ntmps31
 go_wp2_with fail
 refine Calls.mono (S.out _) ?_;rintro e w1 ⟨rfl,rfl⟩;go_wp2_with fail
 refine Calls.mono (F.out _) ?_;rintro e w2 ⟨rfl,hb2⟩;have hx1:=hx0.out.next hb2;obtain ⟨x0,x1,x2,x3,x4⟩:=hx1.1.facts;go_wp2
 have S:=hx1.ret ⟨decide (n<0),s,{data:= #[]}⟩;dsimp only at S;refine bC S.1 (fun W' c0 c1 c2=>by simp [results,Tryz.results31,go_sem,c0,c1,c2]) rfl ⟨rfl,S.2⟩
attribute [local go_sem ↓] Go.wp_at_zero Go.wp_at_succ
def uW (p q:Rat) (k X Y D:Nat):Prop:=NB k X/\NB k Y/\NB k D/\0<D/\(bU p=bU q->p+q=mkRat (sg (bU p) (X+Y)) D)/\
 (bU p≠bU q->X<Y->p+q=mkRat (sg (bU q) (Y-X)) D)/\(bU p≠bU q->Y<=X->p+q=mkRat (sg (bU p) (X-Y)) D)
theorem uX {p q:Rat} {m n:Nat} (hp:qB m p) (hq:qB n q):uW p q (m+n) (p.num.natAbs*q.den) (q.num.natAbs*p.den) (p.den*q.den):=
 ⟨NB.mul hp.1 hq.2,by rw [Nat.add_comm];exact NB.mul hq.1 hp.2,NB.mul hp.2 hq.2,Nat.mul_pos p.den_pos q.den_pos,fun h=>th h,fun h=>wS h,fun h=>wT h⟩
theorem uY {p q:Rat} {m n:Nat} (hp:qB m p) (hq:qB n q) (h:p.den=q.den):uW p q (m+n) p.num.natAbs q.num.natAbs p.den:=
 ⟨NB.mono hp.1 (by omega),NB.mono hq.1 (by omega),NB.mono hp.2 (by omega),p.den_pos,fun e=>qH h e,fun e=>uz h e,fun e=>uA h e⟩
theorem NB.size {k n:Nat} (h:NB k n):(al n).size<=k:=by rw [bx];exact ba h
theorem Bx3.drewN {w w1:World} {r1 r2:GRat} (h:Bx3 w w1 r1 r2) (n:Nat):Bx3 w (w1.drewN n) r1 r2:=⟨h.1,h.2.1,h.2.2.1,h.2.2.2.drewN n⟩
theorem pe (p q:Rat) (m n:Nat) (w:World) (hp:qB m p) (hq:qB n q) (hm:m<=100000000000) (hn:n<=100000000000):
  Calls prog 107 #[aN (enc p),aN (enc q)] w fun e w'=>e= .returned (aN (enc (p+q)))/\Below w.heap.size w w':=by
 have DA:=hid (fun w=>jA p w);have DB:=hid (fun w=>jA q w);have an:(enc p).num=al p.num.natAbs:=rfl;have bn:(enc q).num=al q.num.natAbs:=rfl;have s1:(al p.num.natAbs).size<=m:=NB.size hp.1;have s2:(al q.num.natAbs).size<=n:=NB.size hq.1;have s3:(al p.den).size<=m:=NB.size hp.2;have s4:(al q.den).size<=n:=NB.size hq.2;have M1:=hid (fun w=>eh (enc p).num (al q.den) w (by rw [an];omega) (by omega));have M2:=hid (fun w=>eh (enc q).num (al p.den) w (by rw [bn];omega) (by omega));have M3:=hid (fun w=>eh (al p.den) (al q.den) w (by omega) (by omega));simp only [an,bn,aw] at M1 M2 M3;simp only [←an,←bn] at M1 M2 M3;have HNe:=hid (uX hp hq);have HEq:=hid (fun h=>uY hp hq h);have hde:p.den=q.den->(enc p).den=(enc q).den:=fun h=>by unfold enc;simp only [h]
 have hdn:p.den≠q.den->(enc p).den≠(enc q).den:=fun h e=>h (by have a1:=nw p;have a2:=nw q;unfold wR at a1 a2;rw [e] at a1;omega)
 have HDE:=hid hde;have HDN:=hid (fun h=>lu (hdn h));have AN:=hid an;have BN:=hid bn;have hx0:=hid (Bx3.new w (enc p) (enc q));have en1:(enc p).neg=bU p:=rfl;have en2:(enc q).neg=bU q:=rfl;have EN1:=hid en1;have EN2:=hid en2;obtain ⟨k,hk⟩:∃k,k=m+n:=⟨_,rfl⟩;have hkb:k<=200000000000:=by omega
 rw [←hk] at HNe;simp only [←hk] at HEq;obtain ⟨c,hc⟩:∃c,c=enc (p+q):=⟨_,rfl⟩;rw [←hc];have HC:=hid hc;generalize enc p=a at *
 generalize enc q=b at *
 unfold aN at DA DB;unfold aN;clear hp hq an bn s1 s2 s3 s4 hde hdn hc hk en1 en2 hm hn;go_enter func107,ntmps107
 go_upto_region 1 with fail
 go_cut [5,6,7] (fun s5 s6 s7 wx=>s5= .string a.num/\s6= .string b.num/\s7= .string {data:= #[1]}/\Bx3 w wx a b)
 case first=>
  go_quiet (fail)
  go_wp2
  go_meet
  case rel=>exact ⟨rfl,rfl,rfl,Bx3.drewN hx0.out _⟩
 case rest=>
 obtain ⟨rfl,rfl,rfl,hx⟩:=hcut;obtain ⟨z0,z1,z2,z3,z4⟩:=hx.1.facts;obtain ⟨y0,y1,y2,y3,y4⟩:=hx.2.1.facts;go_upto_region 2 with fail
 go_cut [20] (fun s20 wx=>s20= .bool (decide (p.den≠q.den))/\wc=wx)
 case first=>
  by_cases hd:p.den=q.den
  ·have e1:(a.den.toList==b.den.toList)=true:=by rw [HDE.out hd];simp
   go_wp2
   go_meet
   case rel=>exact ⟨congrArg Value.bool (by simp [hd]),rfl⟩
  have e1:=HDN.out hd;go_wp2
  go_meet
  case rel=>exact ⟨congrArg Value.bool (by simp [hd]),rfl⟩
 case rest=>
 obtain ⟨rfl,rfl⟩:=hcut;go_upto_if 20 with fail
 go_cut [5,6,7] (fun s5 s6 s7 wx=>∃X Y D,s5= .string (al X)/\s6= .string (al Y)/\s7= .string (al D)/\Hid (uW p q k X Y D)/\Bx3 w wx a b)
 case first=>
  by_cases hd:p.den≠q.den
  rotate_left
  ·have HDD:=hid (Decidable.not_not.1 hd);go_wp2_with fail
   refine Calls.mono (DA.out _) ?_;rintro e w1 ⟨rfl,hb1⟩;go_wp2
   go_meet
   case rel=>exact ⟨p.num.natAbs,q.num.natAbs,p.den,by rw [AN.out],by rw [BN.out],rfl,HEq.out HDD.out,hx.next hb1⟩
  go_wp2_with fail
  go_region_held3 (fun w'=>w'.cell? ⟨w.heap.size,0,none⟩=some (.bool a.neg)/\w'.cell? ⟨w.heap.size,1,none⟩=some (.string a.num)/\w'.cell? ⟨w.heap.size,2,none⟩=some (.string a.den)/\w'.cell? ⟨w.heap.size+1,0,none⟩=some (.bool b.neg)/\w'.cell? ⟨w.heap.size+1,1,none⟩=some (.string b.num)/\w'.cell? ⟨w.heap.size+1,2,none⟩=some (.string b.den)) (go_keep)
   (first
    |(go_at_call_of 124 (Value.agg #[.bool a.neg,.string a.num,.string a.den]);refine Calls.mono (DA.out _) ?_;rintro e wn ⟨rfl,hbn⟩;(first|replace hx:=Bx3.next hx hbn|replace hx:=Bx3.next (Bx3.drew hx) hbn);clear z0 z1 z2 z3 z4 y0 y1 y2 y3 y4;obtain ⟨z0,z1,z2,z3,z4⟩:=hx.1.facts;obtain ⟨y0,y1,y2,y3,y4⟩:=hx.2.1.facts)
    |(go_at_call_of 124 (Value.agg #[.bool b.neg,.string b.num,.string b.den]);refine Calls.mono (DB.out _) ?_;rintro e wn ⟨rfl,hbn⟩;(first|replace hx:=Bx3.next hx hbn|replace hx:=Bx3.next (Bx3.drew hx) hbn);clear z0 z1 z2 z3 z4 y0 y1 y2 y3 y4;obtain ⟨z0,z1,z2,z3,z4⟩:=hx.1.facts;obtain ⟨y0,y1,y2,y3,y4⟩:=hx.2.1.facts)
    |(go_at_call_of 123 (Value.string a.num);refine Calls.mono (M1.out _) ?_;rintro e wn ⟨rfl,hbn⟩;(first|replace hx:=Bx3.next hx hbn|replace hx:=Bx3.next (Bx3.drew hx) hbn);clear z0 z1 z2 z3 z4 y0 y1 y2 y3 y4;obtain ⟨z0,z1,z2,z3,z4⟩:=hx.1.facts;obtain ⟨y0,y1,y2,y3,y4⟩:=hx.2.1.facts)
    |(go_at_call_of 123 (Value.string b.num);refine Calls.mono (M2.out _) ?_;rintro e wn ⟨rfl,hbn⟩;(first|replace hx:=Bx3.next hx hbn|replace hx:=Bx3.next (Bx3.drew hx) hbn);clear z0 z1 z2 z3 z4 y0 y1 y2 y3 y4;obtain ⟨z0,z1,z2,z3,z4⟩:=hx.1.facts;obtain ⟨y0,y1,y2,y3,y4⟩:=hx.2.1.facts))
  go_wp2_with fail
  go_region_held3 (fun w'=>w'.cell? ⟨w.heap.size,0,none⟩=some (.bool a.neg)/\w'.cell? ⟨w.heap.size,1,none⟩=some (.string a.num)/\w'.cell? ⟨w.heap.size,2,none⟩=some (.string a.den)/\w'.cell? ⟨w.heap.size+1,0,none⟩=some (.bool b.neg)/\w'.cell? ⟨w.heap.size+1,1,none⟩=some (.string b.num)/\w'.cell? ⟨w.heap.size+1,2,none⟩=some (.string b.den)) (go_keep)
   (first
    |(go_at_call_of 124 (Value.agg #[.bool a.neg,.string a.num,.string a.den]);refine Calls.mono (DA.out _) ?_;rintro e wn ⟨rfl,hbn⟩;(first|replace hx:=Bx3.next hx hbn|replace hx:=Bx3.next (Bx3.drew hx) hbn);clear z0 z1 z2 z3 z4 y0 y1 y2 y3 y4;obtain ⟨z0,z1,z2,z3,z4⟩:=hx.1.facts;obtain ⟨y0,y1,y2,y3,y4⟩:=hx.2.1.facts)
    |(go_at_call_of 124 (Value.agg #[.bool b.neg,.string b.num,.string b.den]);refine Calls.mono (DB.out _) ?_;rintro e wn ⟨rfl,hbn⟩;(first|replace hx:=Bx3.next hx hbn|replace hx:=Bx3.next (Bx3.drew hx) hbn);clear z0 z1 z2 z3 z4 y0 y1 y2 y3 y4;obtain ⟨z0,z1,z2,z3,z4⟩:=hx.1.facts;obtain ⟨y0,y1,y2,y3,y4⟩:=hx.2.1.facts)
    |(go_at_call_of 123 (Value.string (al p.den));refine Calls.mono (M3.out _) ?_;rintro e wn ⟨rfl,hbn⟩;(first|replace hx:=Bx3.next hx hbn|replace hx:=Bx3.next (Bx3.drew hx) hbn);clear z0 z1 z2 z3 z4 y0 y1 y2 y3 y4;obtain ⟨z0,z1,z2,z3,z4⟩:=hx.1.facts;obtain ⟨y0,y1,y2,y3,y4⟩:=hx.2.1.facts))
  go_wp2
  go_meet
  case rel=>exact ⟨_,_,_,rfl,rfl,rfl,HNe,hx⟩
 case rest=>
  clear z0 z1 z2 z3 z4 y0 y1 y2 y3 y4 hx;obtain ⟨X,Y,D,rfl,rfl,rfl,HS,hx⟩:=hcut;obtain ⟨z0,z1,z2,z3,z4⟩:=hx.1.facts;obtain ⟨y0,y1,y2,y3,y4⟩:=hx.2.1.facts;obtain ⟨nx,ny,nd,hD0,f1,f2,f3⟩:=HS.out;have sx:=nx.size;have sy:=ny.size;have sd:=nd.size;by_cases hs:bU p=bU q
  ·have e:(a.neg==b.neg)=true:=by rw [EN1.out,EN2.out,hs];simp
   have hE:=f1 hs;have hxy:(al (X+Y)).size<=400000000000:=Nat.le_trans (nx.add ny).size (by omega);have A1:=hid (fun w=>wP (al X) (al Y) w (by omega) (by omega));have R1:=hid (fun w=>fj (bU p) (al (X+Y)) (al D) w hxy (by omega) (by rw [aw];exact hD0));simp only [aw] at A1 R1;rw [←hE,←HC.out,←EN1.out] at R1;clear hs hE f1 f2 f3 nx ny nd sx sy sd hD0 hxy HS;go_wp2_with fail
   go_region_with (first
    |(go_at_call 150;refine Calls.mono (A1.out _) ?_;rintro e wn ⟨rfl,hbn⟩;replace hx:=Bx3.next (Bx3.drew hx) hbn;clear z0 z1 z2 z3 z4 y0 y1 y2 y3 y4;obtain ⟨z0,z1,z2,z3,z4⟩:=hx.1.facts)
    |(go_at_call 71;refine Calls.mono (R1.out _) ?_;rintro e wm ⟨rfl,hbm⟩;unfold aN;replace hx:=Bx3.next hx hbm;obtain ⟨t0,t1,t2,t3,t4⟩:=hx.2.2.1.facts))
   all_goals (go_wp2;refine bC (hx.ret c).1 (fun W' c0 c1 c2=>by simp [results,Tryz.results107,go_sem,c0,c1,c2]) rfl ⟨rfl,(hx.ret c).2⟩)
  have e:(a.neg==b.neg)=false:=by rw [EN1.out,EN2.out];simp [hs]
  by_cases hl:X<Y
  ·have hE:=f2 hs hl;have A1:=hid (fun w=>oO (al X) (al Y) w (by omega) (by omega) (by rw [aw,aw];exact hl));have A2:=hid (fun w=>kb (al Y) (al X) w (by omega) (by omega) (by rw [aw,aw];omega));have hxy:(al (Y-X)).size<=400000000000:=Nat.le_trans (ny.le (Nat.sub_le _ _)).size (by omega);have R1:=hid (fun w=>fj (bU q) (al (Y-X)) (al D) w hxy (by omega) (by rw [aw];exact hD0));simp only [aw] at A1 A2 R1;rw [←hE,←HC.out,←EN2.out] at R1;clear hs hE f1 f2 f3 nx ny nd sx sy sd hD0 hxy HS hl;go_wp2_with fail
   refine Calls.mono (A1.out _) ?_;rintro e8 w8 ⟨rfl,hb8⟩;replace hx:=Bx3.next hx hb8;go_wp2_with fail
   refine Calls.mono (A2.out _) ?_;rintro e9 w9 ⟨rfl,hb9⟩;replace hx:=Bx3.next hx hb9;clear z0 z1 z2 z3 z4 y0 y1 y2 y3 y4;obtain ⟨y0,y1,y2,y3,y4⟩:=hx.2.1.facts;go_wp2_with fail
   refine Calls.mono (R1.out _) ?_;rintro ea wa ⟨rfl,hba⟩;unfold aN;replace hx:=Bx3.next hx hba;obtain ⟨t0,t1,t2,t3,t4⟩:=hx.2.2.1.facts;go_wp2
   refine bC (hx.ret c).1 (fun W' c0 c1 c2=>by simp [results,Tryz.results107,go_sem,c0,c1,c2]) rfl ⟨rfl,(hx.ret c).2⟩
  have hE:=f3 hs (Nat.le_of_not_lt hl);have A1:=hid (fun w=>kb (al X) (al Y) w (by omega) (by omega) (by rw [aw,aw];omega));have hxy:(al (X-Y)).size<=400000000000:=Nat.le_trans (nx.le (Nat.sub_le _ _)).size (by omega);have R1:=hid (fun w=>fj (bU p) (al (X-Y)) (al D) w hxy (by omega) (by rw [aw];exact hD0));simp only [aw] at A1 R1;rw [←hE,←HC.out,←EN1.out] at R1;clear hs hE f1 f2 f3 nx ny nd sx sy sd hD0 hxy HS hl;go_wp2_with fail
  refine Calls.mono (A1.out _) ?_;rintro e8 w8 ⟨rfl,hb8⟩;replace hx:=Bx3.next hx hb8;clear z0 z1 z2 z3 z4 y0 y1 y2 y3 y4;obtain ⟨z0,z1,z2,z3,z4⟩:=hx.1.facts;go_wp2_with fail
  refine Calls.mono (R1.out _) ?_;rintro ea wa ⟨rfl,hba⟩;unfold aN;replace hx:=Bx3.next hx hba;obtain ⟨t0,t1,t2,t3,t4⟩:=hx.2.2.1.facts;go_wp2
  refine bC (hx.ret c).1 (fun W' c0 c1 c2=>by simp [results,Tryz.results107,go_sem,c0,c1,c2]) rfl ⟨rfl,(hx.ret c).2⟩
attribute [local go_sem ↓] Go.wp_at_zero Go.wp_at_succ
def sB (m:Nat) (r:GRat):Prop:=r.num.size<=m/\r.den.size<=m
theorem sB.qB {m:Nat} {r:GRat} (h:sB m r) (hm:0<m):qB m (qOf r):=yA hm h.1 h.2
theorem eH {m:Nat} {q:Rat} (h:Go.Proofs.YtcgpghifhehlhaaGreatDoor.qB m q):sB m (enc q):=JX h
theorem sB.mono {m n:Nat} {r:GRat} (h:sB m r) (hm:m<=n):sB n r:=⟨Nat.le_trans h.1 hm,Nat.le_trans h.2 hm⟩
theorem uZ (r1 r2:GRat) (m n:Nat) (w:World) (h1:sB m r1) (h2:sB n r2) (hm:m<=100000000000) (hn:n<=100000000000) (hm0:0<m) (hn0:0<n):
  Calls prog 68 #[aN r1,aN r2] w fun e w'=>e= .returned (aN (enc (qOf r1+qOf r2)))/\Below w.heap.size w w':=by
 have C1:=hid (fun w=>cW r1 w (by have:=h1.1;omega) (by have:=h1.2;omega));have C2:=hid (fun w=>cW r2 w (by have:=h2.1;omega) (by have:=h2.2;omega));have A:=hid (fun w=>pe (qOf r1) (qOf r2) m n w (h1.qB hm0) (h2.qB hn0) hm hn);have hx:=(Bx3.new w r1 r2).drew;obtain ⟨z0,z1,z2,z3,z4⟩:=hx.1.facts;clear z0 z1 z2 z3 z4;generalize enc (qOf r1+qOf r2)=c at *
 generalize enc (qOf r1)=a at *
 generalize enc (qOf r2)=b at *
 have HX:=hid hx;clear hx h1 h2 hm hn hm0 hn0;unfold aN at C1 C2 A;unfold aN;go_enter func68,ntmps68
 go_wp2_with fail
 go_region_with (first
  |(go_at_call_of 108 (Value.agg #[.bool r1.neg,.string r1.num,.string r1.den]);refine Calls.mono (C1.out _) ?_;rintro e w1 ⟨rfl,hb1⟩;have hx1:=Bx3.next HX.out hb1;obtain ⟨y0,y1,y2,y3,y4⟩:=hx1.2.1.facts)
  |(go_at_call_of 108 (Value.agg #[.bool r2.neg,.string r2.num,.string r2.den]);refine Calls.mono (C2.out _) ?_;rintro e w2 ⟨rfl,hb2⟩;have hx2:=Bx3.next hx1 hb2)
  |(go_at_call 107;refine Calls.mono (A.out _) ?_;rintro e w3 ⟨rfl,hb3⟩;have hx3:=Bx3.next hx2 hb3;obtain ⟨t0,t1,t2,t3,t4⟩:=hx3.2.2.1.facts))
 all_goals (go_wp2;refine bC (hx3.ret c).1 (fun W' c0 c1 c2=>by simp [results,Tryz.results68,go_sem,c0,c1,c2]) rfl ⟨rfl,(hx3.ret c).2⟩)
theorem iQ (r1 r2:GRat) (m n:Nat) (w:World) (h1:sB m r1) (h2:sB n r2) (hm:m<=100000000000) (hn:n<=100000000000) (hm0:0<m) (hn0:0<n):
  Calls prog 70 #[aN r1,aN r2] w fun e w'=>e= .returned (aN (enc (qOf r1-qOf r2)))/\Below w.heap.size w w':=by
 have C1:=hid (fun w=>cW r1 w (by have:=h1.1;omega) (by have:=h1.2;omega));have C2:=hid (fun w=>cW r2 w (by have:=h2.1;omega) (by have:=h2.2;omega));have N:=hid (fun w=>pd (enc (qOf r2)) w (fun h=>by have e:=(gh _).1 h;rw [e];rfl));rw [uI] at N;have A:=hid (fun w=>pe (qOf r1) (-qOf r2) m n w (h1.qB hm0) (h2.qB hn0).neg hm hn);rw [←Rat.sub_eq_add_neg] at A;have HX:=hid (Bx3.new w r1 r2).drew;generalize enc (qOf r1-qOf r2)=c at *
 generalize enc (-qOf r2)=d at *
 generalize enc (qOf r1)=a at *
 generalize enc (qOf r2)=b at *
 clear h1 h2 hm hn hm0 hn0;unfold aN at C1 C2 A N;unfold aN;go_enter func70,ntmps70
 go_wp2_with fail
 go_region_with (first
  |(go_at_call_of 108 (Value.agg #[.bool r1.neg,.string r1.num,.string r1.den]);refine Calls.mono (C1.out _) ?_;rintro e w1 ⟨rfl,hb1⟩;have hx1:=Bx3.next HX.out hb1;obtain ⟨y0,y1,y2,y3,y4⟩:=hx1.2.1.facts)
  |(go_at_call_of 108 (Value.agg #[.bool r2.neg,.string r2.num,.string r2.den]);refine Calls.mono (C2.out _) ?_;rintro e w2 ⟨rfl,hb2⟩;have hx2:=Bx3.next hx1 hb2)
  |(go_at_call 110;refine Calls.mono (N.out _) ?_;rintro e w4 ⟨rfl,hb4⟩;replace hx2:=Bx3.next hx2 hb4)
  |(go_at_call 107;refine Calls.mono (A.out _) ?_;rintro e w3 ⟨rfl,hb3⟩;have hx3:=Bx3.next hx2 hb3;obtain ⟨t0,t1,t2,t3,t4⟩:=hx3.2.2.1.facts))
 all_goals (go_wp2;refine bC (hx3.ret c).1 (fun W' c0 c1 c2=>by simp [results,Tryz.results70,go_sem,c0,c1,c2]) rfl ⟨rfl,(hx3.ret c).2⟩)
attribute [local go_sem ↓] Go.wp_at_zero Go.wp_at_succ
abbrev lz (w:World) (b:Nat) (a:GRat):World:=((w.setCell ⟨b,0,none⟩ (.bool a.neg)).setCell ⟨b,1,none⟩ (.string a.num)).setCell ⟨b,2,none⟩ (.string a.den)
theorem Bx.put {w:World} {b:Nat} {r:GRat} (h:Bx w b r) (a:GRat):Bx (lz w b a) b a:=(Blk3.stored h _ _ _).2.2.2
theorem Bx.other {w:World} {b b':Nat} {r:GRat} (h:Bx w b r) (hne:b'≠b) (a:GRat):Bx (lz w b' a) b r:=((Blk3.other h hne _ _).other hne _ _).other hne _ _
theorem dS {w w1:World} {b:Nat} (h:Below w.heap.size w w1) (hb:w.heap.size<=b) (a:GRat):Below w.heap.size w (lz w1 b a):=((h.setCell hb _).setCell hb _).setCell hb _
theorem Bx2.put2 {w w1:World} {r1 r2:GRat} (h:Bx2 w w1 r1 r2) (a b:GRat):Bx2 w (lz (lz w1 w.heap.size a) (w.heap.size+1) b) a b:=
 ⟨(h.1.put a).other (by omega) b,(h.2.1.other (by omega) a).put b,dS (dS h.2.2 (Nat.le_refl _) a) (by omega) b⟩
theorem Bx3.put2 {w w1:World} {r1 r2:GRat} (h:Bx3 w w1 r1 r2) (a b:GRat):Bx3 w (lz (lz w1 w.heap.size a) (w.heap.size+1) b) a b:=
 ⟨(h.1.put a).other (by omega) b,(h.2.1.other (by omega) a).put b,(h.2.2.1.other (by omega) a).other (by omega) b,dS (dS h.2.2.2 (Nat.le_refl _) a) (by omega) b⟩
theorem tp (x y:Nat): -1<=bj x y/\bj x y<=1:=by unfold bj;split<;>(try split)<;>omega
theorem nH (r1 r2:GRat) (m n:Nat) (w:World) (h1:sB m r1) (h2:sB n r2) (hm:m<=100000000000) (hn:n<=100000000000) (hm0:0<m) (hn0:0<n):
  Calls prog 84 #[aN r1,aN r2] w fun e w'=>e= .returned (.int .i64 (fV (qOf r1) (qOf r2)))/\Below w.heap.size w w':=by
 have C1:=hid (fun w=>cW r1 w (by have:=h1.1;omega) (by have:=h1.2;omega));have C2:=hid (fun w=>cW r2 w (by have:=h2.1;omega) (by have:=h2.2;omega));have S1:=hid (fun w=>g8 (enc (qOf r1)) w);have S2:=hid (fun w=>g8 (enc (qOf r2)) w);rw [lp] at S1 S2;have DA:=hid (fun w=>jA (qOf r1) w);have DB:=hid (fun w=>jA (qOf r2) w);have hp:=h1.qB hm0;have hq:=h2.qB hn0;generalize qOf r1=p at *
 generalize qOf r2=q at *
 have an:(enc p).num=al p.num.natAbs:=rfl;have bn:(enc q).num=al q.num.natAbs:=rfl;have s1:(al p.num.natAbs).size<=m:=NB.size hp.1;have s2:(al q.num.natAbs).size<=n:=NB.size hq.1;have s3:(al p.den).size<=m:=NB.size hp.2;have s4:(al q.den).size<=n:=NB.size hq.2;have M1:=hid (fun w=>eh (enc p).num (al q.den) w (by rw [an];omega) (by omega));have M2:=hid (fun w=>eh (enc q).num (al p.den) w (by rw [bn];omega) (by omega));simp only [an,bn,aw] at M1 M2;simp only [←an,←bn] at M1 M2;obtain ⟨X,hX⟩:∃X,X=p.num.natAbs*q.den:=⟨_,rfl⟩;obtain ⟨Y,hY⟩:∃X,X=q.num.natAbs*p.den:=⟨_,rfl⟩;have nx:(al X).size<=m+n:=by rw [hX];exact NB.size (NB.mul hp.1 hq.2)
 have ny:(al Y).size<=n+m:=by rw [hY];exact NB.size (NB.mul hq.1 hp.2)
 have CO:=hid (fun w=>pb (al X) (al Y) w (by unfold maxLen;omega) (by unfold maxLen;omega));rw [aw,aw] at CO;have hpos:bU p=false->bU q=false->fV p q=bj X Y:=fun a b=>by rw [hX,hY];exact uD a b
 have hneg:bU p=true->bU q=true->fV p q= - bj X Y:=fun a b=>by rw [hX,hY];exact uE a b
 rw [←hX] at M1;rw [←hY] at M2;have hc:=tp X Y;have HPOS:=hid hpos;have HNEG:=hid hneg;have HSG:=hid (fun h=>uF (p:=p) (q:=q) h);have HSE:=hid (fun h=>wU (p:=p) (q:=q) h);have HX:=hid (Bx2.new w r1 r2).drew;have EN1:Hid ((enc p).neg=bU p):=rfl;generalize bj X Y=c at *
 generalize enc p=a at *
 generalize enc q=b at *
 obtain ⟨sp,hsp⟩:∃s,s=aL p:=⟨_,rfl⟩;obtain ⟨sq,hsq⟩:∃s,s=aL q:=⟨_,rfl⟩;rw [←hsp] at S1 HSG HSE;rw [←hsq] at S2 HSG HSE;obtain ⟨k,hk⟩:∃k,k=fV p q:=⟨_,rfl⟩;rw [←hk] at HSG HPOS HNEG ⊢;clear hpos hneg hX hY an bn s1 s2 s3 s4 nx ny hp hq h1 h2 hm hn hm0 hn0 hsp hsq hk;unfold aN at C1 C2 S1 S2 DA DB;unfold aN;go_enter func84,ntmps84
 go_upto_region 1 with fail
 go_cut [8,9,10,11] (fun _ _ _ _ wx=>Bx2 w wx a b)
 case first=>
  go_region_with (first
   |(go_at_call_of 108 (Value.agg #[.bool r1.neg,.string r1.num,.string r1.den]);refine Calls.mono (C1.out _) ?_;rintro e w1 ⟨rfl,hb1⟩;have hx1:=Bx2.next HX.out hb1;obtain ⟨y0,y1,y2,y3,y4⟩:=hx1.2.1.facts)
   |(go_at_call_of 108 (Value.agg #[.bool r2.neg,.string r2.num,.string r2.den]);refine Calls.mono (C2.out _) ?_;rintro e w2 ⟨rfl,hb2⟩;have hx2:=Bx2.next hx1 hb2;clear y0 y1 y2 y3 y4;obtain ⟨t0,t1,t2,t3,t4⟩:=hx2.1.facts;obtain ⟨y0,y1,y2,y3,y4⟩:=hx2.2.1.facts))
  all_goals (go_wp2;go_meet;exact hx2.put2 a b)
 case rest=>
  have hx:=hcut;obtain ⟨z0,z1,z2,z3,z4⟩:=hx.1.facts;obtain ⟨y0,y1,y2,y3,y4⟩:=hx.2.1.facts;clear hcut HX C1 C2;go_upto_region 2 with fail
  go_cut [5,6] (fun s5 s6 wx=>s5= .int .i64 sp/\s6= .int .i64 sq/\Bx2 w wx a b)
  case first=>
   go_region_held3 (fun w'=>w'.cell? ⟨w.heap.size,0,none⟩=some (.bool a.neg)/\w'.cell? ⟨w.heap.size,1,none⟩=some (.string a.num)/\w'.cell? ⟨w.heap.size,2,none⟩=some (.string a.den)/\w'.cell? ⟨w.heap.size+1,0,none⟩=some (.bool b.neg)/\w'.cell? ⟨w.heap.size+1,1,none⟩=some (.string b.num)/\w'.cell? ⟨w.heap.size+1,2,none⟩=some (.string b.den)) (go_keep)
    (first
     |(go_at_call_of 115 (Value.agg #[.bool a.neg,.string a.num,.string a.den]);refine Calls.mono (S1.out _) ?_;rintro e wn ⟨rfl,hbn⟩;(first|replace hx:=Bx2.next hx hbn|replace hx:=Bx2.next (Bx2.drew hx) hbn);clear z0 z1 z2 z3 z4 y0 y1 y2 y3 y4;obtain ⟨z0,z1,z2,z3,z4⟩:=hx.1.facts;obtain ⟨y0,y1,y2,y3,y4⟩:=hx.2.1.facts)
     |(go_at_call_of 115 (Value.agg #[.bool b.neg,.string b.num,.string b.den]);refine Calls.mono (S2.out _) ?_;rintro e wn ⟨rfl,hbn⟩;(first|replace hx:=Bx2.next hx hbn|replace hx:=Bx2.next (Bx2.drew hx) hbn);clear z0 z1 z2 z3 z4 y0 y1 y2 y3 y4;obtain ⟨z0,z1,z2,z3,z4⟩:=hx.1.facts;obtain ⟨y0,y1,y2,y3,y4⟩:=hx.2.1.facts))
   go_wp2
   go_meet
   case rel=>exact ⟨rfl,rfl,hx⟩
  case rest=>
  clear hx z0 z1 z2 z3 z4 y0 y1 y2 y3 y4;obtain ⟨rfl,rfl,hx⟩:=hcut;obtain ⟨z0,z1,z2,z3,z4⟩:=hx.1.facts;obtain ⟨y0,y1,y2,y3,y4⟩:=hx.2.1.facts;have hbx:=hid hx.2.2;by_cases hs:sp=sq
  ·subst hs;have hxn:=hid hx;go_upto_region 7 with fail
   go_cut [7] (fun s7 wx=>s7= .int .i64 c/\Bx2 w wx a b)
   case first=>
    go_region_held3 (fun w'=>w'.cell? ⟨w.heap.size,0,none⟩=some (.bool a.neg)/\w'.cell? ⟨w.heap.size,1,none⟩=some (.string a.num)/\w'.cell? ⟨w.heap.size,2,none⟩=some (.string a.den)/\w'.cell? ⟨w.heap.size+1,0,none⟩=some (.bool b.neg)/\w'.cell? ⟨w.heap.size+1,1,none⟩=some (.string b.num)/\w'.cell? ⟨w.heap.size+1,2,none⟩=some (.string b.den)) (go_keep)
     (first
      |(go_at_call_of 124 (Value.agg #[.bool a.neg,.string a.num,.string a.den]);refine Calls.mono (DA.out _) ?_;rintro e wn ⟨rfl,hbn⟩;(first|replace hx:=Bx2.next hx hbn|replace hx:=Bx2.next (Bx2.drew hx) hbn);clear z0 z1 z2 z3 z4 y0 y1 y2 y3 y4;obtain ⟨z0,z1,z2,z3,z4⟩:=hx.1.facts;obtain ⟨y0,y1,y2,y3,y4⟩:=hx.2.1.facts)
      |(go_at_call_of 124 (Value.agg #[.bool b.neg,.string b.num,.string b.den]);refine Calls.mono (DB.out _) ?_;rintro e wn ⟨rfl,hbn⟩;(first|replace hx:=Bx2.next hx hbn|replace hx:=Bx2.next (Bx2.drew hx) hbn);clear z0 z1 z2 z3 z4 y0 y1 y2 y3 y4;obtain ⟨z0,z1,z2,z3,z4⟩:=hx.1.facts;obtain ⟨y0,y1,y2,y3,y4⟩:=hx.2.1.facts)
      |(go_at_call_of 123 (Value.string a.num);refine Calls.mono (M1.out _) ?_;rintro e wn ⟨rfl,hbn⟩;(first|replace hx:=Bx2.next hx hbn|replace hx:=Bx2.next (Bx2.drew hx) hbn);clear z0 z1 z2 z3 z4 y0 y1 y2 y3 y4;obtain ⟨z0,z1,z2,z3,z4⟩:=hx.1.facts;obtain ⟨y0,y1,y2,y3,y4⟩:=hx.2.1.facts)
      |(go_at_call_of 123 (Value.string b.num);refine Calls.mono (M2.out _) ?_;rintro e wn ⟨rfl,hbn⟩;(first|replace hx:=Bx2.next hx hbn|replace hx:=Bx2.next (Bx2.drew hx) hbn);clear z0 z1 z2 z3 z4 y0 y1 y2 y3 y4;obtain ⟨z0,z1,z2,z3,z4⟩:=hx.1.facts;obtain ⟨y0,y1,y2,y3,y4⟩:=hx.2.1.facts)
      |(go_at_call 122;refine Calls.mono (CO.out _) ?_;rintro e wn ⟨rfl,rfl⟩))
    go_wp2
    go_meet
    case rel=>exact ⟨rfl,hx⟩
   case rest=>
   clear hx z0 z1 z2 z3 z4 y0 y1 y2 y3 y4 hbx hxn;obtain ⟨rfl,hx⟩:=hcut;obtain ⟨z0,z1,z2,z3,z4⟩:=hx.1.facts;have hbx:=hid hx.2.2;rcases HSE.out rfl with ⟨g1,g2⟩|⟨g1,g2⟩
   ·have hk:=hid (HNEG.out g1 g2);have ha:a.neg=true:=by rw [EN1.out];exact g1
    rw [ha] at z0;clear ha g1 g2 hx;go_wp2
    go_ret
    exact ⟨bI (by rw [hk.out]),hbx.out⟩
   have hk:=hid (HPOS.out g1 g2);have ha:a.neg=false:=by rw [EN1.out];exact g1
   rw [ha] at z0;clear ha g1 g2 hx;go_wp2
   go_ret
   exact ⟨bI (by rw [hk.out]),hbx.out⟩
  have hk:=hid (HSG.out hs);have e1:(sp==sq)=false:=by simpa using hs
  have e2:(sp !=sq)=true:=by simp [bne,e1]
  clear hx z0 z1 z2 z3 z4 y0 y1 y2 y3 y4;by_cases hl:sp<sq
  ·have hk2:=hid (show k= -1 by rw [hk.out,if_pos hl]);go_wp2
   go_ret
   exact ⟨bI (by rw [hk2.out]),hbx.out⟩
  have hk2:=hid (show k=1 by rw [hk.out,if_neg hl]);go_wp2
  go_ret
  exact ⟨bI (by rw [hk2.out]),hbx.out⟩
attribute [local go_sem ↓] Go.wp_at_zero Go.wp_at_succ
theorem J7 (r1 r2:GRat) (m n:Nat) (w:World) (h1:sB m r1) (h2:sB n r2) (hm:m<=100000000000) (hn:n<=100000000000) (hm0:0<m) (hn0:0<n):
  Calls prog 189 #[aN r1,aN r2] w fun e w'=>e= .returned (aN (enc (qOf r1*qOf r2)))/\Below w.heap.size w w':=by
 have C1:=hid (fun w=>cW r1 w (by have:=h1.1;omega) (by have:=h1.2;omega));have C2:=hid (fun w=>cW r2 w (by have:=h2.1;omega) (by have:=h2.2;omega));have DA:=hid (fun w=>jA (qOf r1) w);have DB:=hid (fun w=>jA (qOf r2) w);have hp:=h1.qB hm0;have hq:=h2.qB hn0;generalize qOf r1=p at *
 generalize qOf r2=q at *
 have an:(enc p).num=al p.num.natAbs:=rfl;have bn:(enc q).num=al q.num.natAbs:=rfl;have s1:(al p.num.natAbs).size<=m:=NB.size hp.1;have s2:(al q.num.natAbs).size<=n:=NB.size hq.1;have s3:(al p.den).size<=m:=NB.size hp.2;have s4:(al q.den).size<=n:=NB.size hq.2;have M1:=hid (fun w=>eh (enc p).num (enc q).num w (by rw [an];omega) (by rw [bn];omega));have M2:=hid (fun w=>eh (al p.den) (al q.den) w (by omega) (by omega));simp only [an,bn,aw] at M1 M2;simp only [←an,←bn] at M1;have nx:(al (p.num.natAbs*q.num.natAbs)).size<=m+n:=NB.size (NB.mul hp.1 hq.1);have ny:(al (p.den*q.den)).size<=m+n:=NB.size (NB.mul hp.2 hq.2);have R:=hid (fun w=>fj (bU p !=bU q) (al (p.num.natAbs*q.num.natAbs)) (al (p.den*q.den)) w (by omega) (by omega) (by rw [aw];exact Nat.mul_pos p.den_pos q.den_pos));rw [aw,aw,←Dk] at R;have HX:=hid (Bx3.new w r1 r2).drew;rw [show bU p=(enc p).neg from rfl,show bU q=(enc q).neg from rfl] at R;generalize enc (p*q)=c at *
 generalize enc p=a at *
 generalize enc q=b at *
 clear an bn s1 s2 s3 s4 nx ny hp hq h1 h2 hm hn hm0 hn0;unfold aN at C1 C2 DA DB R;unfold aN;go_enter func189,ntmps189
 go_upto_region 1 with fail
 go_cut [5,6,7,8] (fun _ _ _ _ wx=>Bx3 w wx a b)
 case first=>
  go_region_with (first
   |(go_at_call_of 108 (Value.agg #[.bool r1.neg,.string r1.num,.string r1.den]);refine Calls.mono (C1.out _) ?_;rintro e w1 ⟨rfl,hb1⟩;have hx1:=Bx3.next HX.out hb1;obtain ⟨y0,y1,y2,y3,y4⟩:=hx1.2.1.facts)
   |(go_at_call_of 108 (Value.agg #[.bool r2.neg,.string r2.num,.string r2.den]);refine Calls.mono (C2.out _) ?_;rintro e w2 ⟨rfl,hb2⟩;have hx2:=Bx3.next hx1 hb2;clear y0 y1 y2 y3 y4;obtain ⟨t0,t1,t2,t3,t4⟩:=hx2.1.facts;obtain ⟨y0,y1,y2,y3,y4⟩:=hx2.2.1.facts))
  all_goals (go_wp2;go_meet;exact hx2.put2 a b)
 case rest=>
  have hx:=hcut;obtain ⟨z0,z1,z2,z3,z4⟩:=hx.1.facts;obtain ⟨y0,y1,y2,y3,y4⟩:=hx.2.1.facts;clear hcut HX C1 C2;have hne0:w.heap.size≠w.heap.size+1+1:=by omega
  have hne1:¬(w.heap.size+1+1=w.heap.size):=by omega
  go_wp2_with fail
  go_region_held3 (fun w'=>w'.cell? ⟨w.heap.size,0,none⟩=some (.bool a.neg)/\w'.cell? ⟨w.heap.size,1,none⟩=some (.string a.num)/\w'.cell? ⟨w.heap.size,2,none⟩=some (.string a.den)/\w'.cell? ⟨w.heap.size+1,0,none⟩=some (.bool b.neg)/\w'.cell? ⟨w.heap.size+1,1,none⟩=some (.string b.num)/\w'.cell? ⟨w.heap.size+1,2,none⟩=some (.string b.den)) (go_keep)
   (first
    |(go_at_call_of 123 (Value.string a.num);refine Calls.mono (M1.out _) ?_;rintro e wn ⟨rfl,hbn⟩;(first|replace hx:=Bx3.next hx hbn|replace hx:=Bx3.next (Bx3.drew hx) hbn);clear z0 z1 z2 z3 z4 y0 y1 y2 y3 y4;obtain ⟨z0,z1,z2,z3,z4⟩:=hx.1.facts;obtain ⟨y0,y1,y2,y3,y4⟩:=hx.2.1.facts)
    |(go_at_call_of 124 (Value.agg #[.bool a.neg,.string a.num,.string a.den]);refine Calls.mono (DA.out _) ?_;rintro e wn ⟨rfl,hbn⟩;(first|replace hx:=Bx3.next hx hbn|replace hx:=Bx3.next (Bx3.drew hx) hbn);clear z0 z1 z2 z3 z4 y0 y1 y2 y3 y4;obtain ⟨z0,z1,z2,z3,z4⟩:=hx.1.facts;obtain ⟨y0,y1,y2,y3,y4⟩:=hx.2.1.facts)
    |(go_at_call_of 124 (Value.agg #[.bool b.neg,.string b.num,.string b.den]);refine Calls.mono (DB.out _) ?_;rintro e wn ⟨rfl,hbn⟩;(first|replace hx:=Bx3.next hx hbn|replace hx:=Bx3.next (Bx3.drew hx) hbn);clear z0 z1 z2 z3 z4 y0 y1 y2 y3 y4;obtain ⟨z0,z1,z2,z3,z4⟩:=hx.1.facts;obtain ⟨y0,y1,y2,y3,y4⟩:=hx.2.1.facts)
    |(go_at_call_of 123 (Value.string (al p.den));refine Calls.mono (M2.out _) ?_;rintro e wn ⟨rfl,hbn⟩;(first|replace hx:=Bx3.next hx hbn|replace hx:=Bx3.next (Bx3.drew hx) hbn);clear z0 z1 z2 z3 z4 y0 y1 y2 y3 y4;obtain ⟨z0,z1,z2,z3,z4⟩:=hx.1.facts;obtain ⟨y0,y1,y2,y3,y4⟩:=hx.2.1.facts)
    |(go_at_call 71;refine Calls.mono (R.out _) ?_;rintro e wn ⟨rfl,hbn⟩;(first|replace hx:=Bx3.next hx hbn|replace hx:=Bx3.next (Bx3.drew hx) hbn);clear z0 z1 z2 z3 z4 y0 y1 y2 y3 y4;obtain ⟨z0,z1,z2,z3,z4⟩:=hx.1.facts;obtain ⟨y0,y1,y2,y3,y4⟩:=hx.2.1.facts;obtain ⟨t0,t1,t2,t3,t4⟩:=hx.2.2.1.facts))
  all_goals (go_wp2;refine bC (hx.ret c).1 (fun W' c0 c1 c2=>by simp [results,Tryz.results189,go_sem,c0,c1,c2]) rfl ⟨rfl,(hx.ret c).2⟩)
end Go.Proofs.YtcgpghifhehlhaaGreatDoor
