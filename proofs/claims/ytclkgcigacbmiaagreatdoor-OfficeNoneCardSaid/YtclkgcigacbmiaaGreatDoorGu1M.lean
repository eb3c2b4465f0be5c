/- guarantee.positive, insolvencyref17.amount, insolvencylaw0: Whole, Ratio, Amount, Few, FewRats: walked. -/
import Derived.Test.YtclkgcigacbmiaaGreatDoorVal3M
import Derived.Test.YtclkgcigacbmiaaGreatDoorWp2M
import Derived.Test.YtclkgcigacbmiaaGreatDoorAbTM
set_option linter.unusedVariables false
set_option maxRecDepth 100000
set_option linter.unusedSimpArgs false
set_option linter.unusedSectionVars false
namespace Go.Proofs.YtclkgcigacbmiaaGreatDoor
open Go.RowKit Go.Proofs.Tryz
theorem ia (n:Int) (w:World) (h0: -9223372036854775808<=n) (h1:n<=9223372036854775807):Calls prog 19 #[.int .i64 n] w fun e w'=>e= .returned (az (enc (n:Rat)))/\Below w.heap.size w w':=by
 have I:=hid (fun w=>rQ n w h0 h1);have HX:=hid (Bx1.new w);generalize enc (n:Rat)=a at *
 unfold az at I;unfold az;go_enter func19,ntmps19
 go_wp2_with fail
 refine Calls.mono (I.out _) ?_;rintro e w1 ⟨rfl,hb1⟩;have hx:=HX.out.next hb1;obtain ⟨t0,t1,t2,t3,t4⟩:=hx.1.facts;go_wp2
 refine aR (hx.ret a).1 (fun W' c0 c1 c2=>by simp [results,Tryz.results19,go_sem,c0,c1,c2]) rfl ⟨rfl,(hx.ret a).2⟩
theorem se (a b:Nat) (w:World) (ha:a<=9223372036854775807) (hb:b<=9223372036854775807) (hd:0<b):
  Calls prog 52 #[.int .i64 a,.int .i64 b] w fun e w'=>e= .returned (az (enc (mkRat (a:Int) b)))/\Below w.heap.size w w':=by
 have F:=hid (fun w=>lA a b w ha hb hd);have HX:=hid (Bx1.new w);generalize enc (mkRat (a:Int) b)=q at *
 unfold az at F;unfold az;go_enter func52,ntmps52
 go_wp2_with fail
 refine Calls.mono (F.out _) ?_;rintro e w1 ⟨rfl,hb1⟩;have hx:=HX.out.next hb1;obtain ⟨t0,t1,t2,t3,t4⟩:=hx.1.facts;have S:=hid (hx.1.put q);have hbx:=hid (de hx.2 (Nat.le_refl _) q);go_wp2
 refine aR (Blk3.alloc S.out _) (fun W' c0 c1 c2=>by simp [results,Tryz.results52,go_sem,c0,c1,c2]) rfl ⟨rfl,hbx.out.alloc (Below.size hbx.out) _⟩
theorem nO (x:Nat) (w:World) (hx:x<65536):Calls prog 20 #[.int .u16 x] w fun e w'=>e= .returned (az (enc (dH x)))/\Below w.heap.size w w':=by
 have HX:=hid (Bx1.new w);by_cases h0:x%5=0
 ·have e0:((x:Int)%5==0)=true:=by simp;omega
  have R:=se (x/5%23) (1+x/115%6);have hq:dH x=mkRat ((x/5%23:Nat):Int) (1+x/115%6):=by unfold dH;rw [if_pos h0]
  rw [←hq] at R;rw [show (((x/5%23:Nat)):Int)=(x:Int)/5%23 by omega,show (((1+x/115%6:Nat)):Int)=1+(x:Int)/115%6 by omega] at R;have RR:=hid (fun w=>R w (by omega) (by omega) (by omega));generalize enc (dH x)=q at *
  clear R hq;unfold az at RR;unfold az;go_enter func20,ntmps20
  go_wp2_with fail
  refine Calls.mono (RR.out _) ?_;rintro e w1 ⟨rfl,hb1⟩;have hx:=HX.out.next hb1;obtain ⟨t0,t1,t2,t3,t4⟩:=hx.1.facts;go_wp2
  refine aR (hx.ret q).1 (fun W' c0 c1 c2=>by simp [results,Tryz.results20,go_sem,c0,c1,c2]) rfl ⟨rfl,(hx.ret q).2⟩
 have e0:((x:Int)%5==0)=false:=by simp;omega
 by_cases h1:x%5=1
 ·have e1:((x:Int)%5==1)=true:=by simp;omega
  have R:=ia (10*((x:Int)/5%4));have hq:dH x=(((10*((x:Int)/5%4)):Int):Rat):=by unfold dH;rw [if_neg h0,if_pos h1];congr 1
  rw [←hq] at R;have RR:=hid (fun w=>R w (by omega) (by omega));generalize enc (dH x)=q at *
  clear R hq;unfold az at RR;unfold az;go_enter func20,ntmps20
  go_wp2_with fail
  refine Calls.mono (RR.out _) ?_;rintro e w1 ⟨rfl,hb1⟩;have hx:=HX.out.next hb1;obtain ⟨t0,t1,t2,t3,t4⟩:=hx.1.facts;go_wp2
  refine aR (hx.ret q).1 (fun W' c0 c1 c2=>by simp [results,Tryz.results20,go_sem,c0,c1,c2]) rfl ⟨rfl,(hx.ret q).2⟩
 have e1:((x:Int)%5==1)=false:=by simp;omega
 have R:=ia ((x:Int)/5%13);have hq:dH x=((((x:Int)/5%13):Int):Rat):=by unfold dH;rw [if_neg h0,if_neg h1];congr 1
 rw [←hq] at R;have RR:=hid (fun w=>R w (by omega) (by omega));generalize enc (dH x)=q at *
 clear R hq;unfold az at RR;unfold az;go_enter func20,ntmps20
 go_wp2_with fail
 refine Calls.mono (RR.out _) ?_;rintro e w1 ⟨rfl,hb1⟩;have hx:=HX.out.next hb1;obtain ⟨t0,t1,t2,t3,t4⟩:=hx.1.facts;go_wp2
 refine aR (hx.ret q).1 (fun W' c0 c1 c2=>by simp [results,Tryz.results20,go_sem,c0,c1,c2]) rfl ⟨rfl,(hx.ret q).2⟩
end Go.Proofs.YtclkgcigacbmiaaGreatDoor
namespace Go.Proofs.YtclkgcigacbmiaaGreatDoor
open Go Go.RowKit Go.Proofs.Tryz
structure T3 where
 a:List GPart
 b:List GPart
 c:List GPart
def T3.put (T:T3) (x:Nat) (p:GPart):T3:=if x=1 then ⟨T.a++[p],T.b,T.c⟩ else if x=2 then ⟨T.a,T.b++[p],T.c⟩ else ⟨T.a,T.b,T.c++[p]⟩
theorem mT (n:Nat) (h:n<65536):IntKind.u16.wrap (n:Int)=n:=by simp [IntKind.wrap,IntKind.bits,IntKind.signed];omega
theorem yD (n:Nat) (h:n<18446744073709551616):IntKind.u64.wrap (n:Int)=n:=by simp [IntKind.wrap,IntKind.bits,IntKind.signed];omega
theorem wR (n:Int) (h0: -9223372036854775808<=n) (h1:n<=9223372036854775807):ACall prog 19 [.one (.lit (.int .i64 n))] (.val (.agg (bk (enc (n:Rat))))):=
 aJ (aV func19 (by decide) (by kernel_rfl)) [.int .i64 n] (az (enc (n:Rat))) fun w=>ia n w h0 h1
theorem cp (x:Nat) (hx:x<65536):ACall prog 20 [.one (.lit (.int .u16 x))] (.val (.agg (bk (enc (dH x))))):=
 aJ (aV func20 (by decide) (by kernel_rfl)) [.int .u16 x] (az (enc (dH x))) fun w=>nO x w hx
structure OS where
 k:Nat
 h:Int
 l:List Leg
section
variable {P : Program} {e : En} {k0 : Kx} {N : Nat} {st : St} {a : Act} {w : World} {Q : Exit → St → Prop} {c : Code}
end
def Ad (n:Nat):List C:=[.lit (.int .u16 n)]
def cN4 (x:N4):List C:=[.lit (.int .u16 x.a),.lit (.int .u16 x.b),.lit (.int .u16 x.c),.lit (.int .u16 x.d)]
end Go.Proofs.YtclkgcigacbmiaaGreatDoor
