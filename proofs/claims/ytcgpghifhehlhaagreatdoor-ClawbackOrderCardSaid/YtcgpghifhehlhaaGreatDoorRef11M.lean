/- Knuth's step, its plain facts at a window of a row. -/
import Derived.Test.YtcgpghifhehlhaaGreatDoorRef3M
import Derived.StillTailTactics
import Derived.Test.YtcgpghifhehlhaaGreatDoorLftM
import Derived.Handy
import Derived.Test.YtcgpghifhehlhaaGreatDoorJfM
import Derived.Deep.DeepCutAuto
import Derived.Deep.DrawnRows
set_option linter.unusedVariables false
set_option maxRecDepth 100000
set_option linter.unusedSimpArgs false
namespace Go.Proofs.YtcgpghifhehlhaaGreatDoor
open Go.RowKit Go.Proofs.Tryz

def LW (w wr:World) (gd nn:Nat) (od:List Nat) (gq Q:Nat) (oq:List Nat):Prop:=OwnL wr gd nn od/\OwnL wr gq Q oq/\Below w.heap.size w wr
theorem LW.set {w wr:World} {gd nn:Nat} {od:List Nat} {gq Q:Nat} {oq:List Nat} (h:LW w wr gd nn od gq Q oq) {gu:Nat} (h1:gu≠gd) (h2:gu≠gq) (h3:w.heap.size<=gu) (p:Nat) (v:Value):LW w (wr.setCell ⟨gu,p,none⟩ v) gd nn od gq Q oq:=
 ⟨h.1.other h1 p v,h.2.1.other h2 p v,h.2.2.setCell h3 v⟩
theorem LW.drewN {w wr:World} {gd nn:Nat} {od:List Nat} {gq Q:Nat} {oq:List Nat} (h:LW w wr gd nn od gq Q oq) (k:Nat):LW w (wr.drewN k) gd nn od gq Q oq:=⟨h.1,h.2.1,h.2.2.drewN k⟩
theorem fU (u:Nat) (w:World) (hu:u<18446744073709551616):
  Calls prog 66 #[.int .u64 u] w fun e w'=>e= .returned (.string (al u))/\Below w.heap.size w w':=by
 have e1:ac [u%4294967296,u/4294967296]=u:=by simp [ac];omega
 have hR:∀o:World,Own o w.heap.size 168 2 (fun j=> .int .u32 (([u%4294967296,u/4294967296]:List Nat).getD j 0:Nat))->ax 1 bi o (LT o.heap.size) [.slice (some ⟨w.heap.size,0,none⟩) 2 2] [u%4294967296,u/4294967296]:=fun o ho=>
  dv ho (fun _=>rfl) rfl (by omega) (by intro x hx;simp at hx;omega)
 have hO:Own (w.alloc (.cells #[.int .u32 ((u:Int)%4294967296),.int .u32 ((u:Int)/4294967296)] 168)) w.heap.size 168 2 (fun j=> .int .u32 (([u%4294967296,u/4294967296]:List Nat).getD j 0:Nat)):=by
  have:=Own.new w 168 2 (fun j=> .int .u32 (([u%4294967296,u/4294967296]:List Nat).getD j 0:Nat));have e:(Array.range 2).map (fun j=>Value.int .u32 (([u%4294967296,u/4294967296]:List Nat).getD j 0:Nat))= #[.int .u32 ((u:Int)%4294967296),.int .u32 ((u:Int)/4294967296)]:=by
   apply Array.ext';simp [List.range_succ]
  rw [e] at this;exact this
 have HT:=hid (mA _ _ _ _ (fun _ h=>h) (by simp) (hR _ hO));rw [e1] at HT;clear hR hO e1;go_enter func66,ntmps66
 go_wp2_with fail
 refine Calls.mono HT.out ?_;rintro e w1 ⟨rfl,hb1⟩;go_wp2
 go_ret
 exact ⟨rfl,((Below.refl w.heap.size w).alloc (Nat.le_refl _) _).step hb1⟩
def aN (r:GRat):Value:= .agg #[.bool r.neg,.string r.num,.string r.den]
def gW (r:GRat):Int:=if r.num.size=0 then 0 else if r.neg=true then -1 else 1
theorem fy {s:ByteArray} (h:¬s.size=0):s.toList.isEmpty=false:=by
 rw [ByteArray.toList_eq];cases hl:s.data.toList with
 |nil=>exact absurd (by rw [←ByteArray.size_data,←Array.length_toList,hl];rfl) h
 |cons=>rfl
theorem li (n:Int) (w:World) (h0: -9223372036854775808<=n) (h1:n<=9223372036854775807):Calls prog 67 #[.int .i64 n] w fun e w'=>e= .returned (.int .u64 (n.natAbs:Int))/\w=w':=by
 by_cases h:n<0
 ·have e:Hid ((-(n+1))+1=(n.natAbs:Int)):=by show (-(n+1))+1=(n.natAbs:Int);omega
  go_enter func67,ntmps67
  go_wp2
  go_ret
  exact ⟨bI e.out,rfl⟩
 have e:Hid (n=(n.natAbs:Int)):=by show n=(n.natAbs:Int);omega
 go_enter func67,ntmps67
 go_wp2
 go_ret
 exact ⟨bI e.out,rfl⟩
def tf (r:GRat):GRat:=if r.num.size=0 then r else ⟨!r.neg,r.num,r.den⟩

end Go.Proofs.YtcgpghifhehlhaaGreatDoor
section
/- Rational numbers As the program fS them: plain. -/
namespace Go.Proofs.YtcgpghifhehlhaaGreatDoor
def sg (b:Bool) (n:Nat):Int:=if b=true then -(n:Int) else (n:Int)
theorem fo (b:Bool) (n:Nat):(sg b n).natAbs=n:=by unfold sg;split<;>simp
theorem rL (b:Bool):sg b 0=0:=by unfold sg;split<;>rfl
theorem qE {b:Bool} {n:Nat} (h:n≠0):(sg b n<0)=(b=true):=by
 unfold sg;cases b<;>simp<;>omega
theorem xU (z:Int):sg (decide (z<0)) z.natAbs=z:=by unfold sg;split<;>simp_all<;>omega
def cc:ByteArray:={data:= #[]}
theorem gf:al 0=cc:=by unfold al cc;rw [ct]
theorem gX:cc.size=0:=rfl
theorem iB {s:ByteArray} (h:s.size=0):s=cc:=ByteArray.ext (Array.eq_empty_of_size_eq_zero h)
theorem fp {n:Nat} (h:n≠0):(al n).size≠0:=by
 rw [bx,ee h];simp
theorem nv {n:Nat}:(al n).size=0↔n=0:=⟨fun h=>by rcases Nat.eq_zero_or_pos n with h0|h0;exact h0;exact absurd h (fp (by omega)),fun h=>by subst h;rw [gf];rfl⟩
def enc (q:Rat):GRat:=⟨decide (q.num<0),al q.num.natAbs,if q.den=1 then cc else al q.den⟩
theorem jx:enc 0=⟨false,cc,cc⟩:=by
 unfold enc;simp [gf]
theorem wQ {p q:Rat} (h:enc p=enc q):p=q:=by
 unfold enc at h;injection h with h1 h2 h3
 have e2:=i5 h2;have e1:p.num=q.num:=by
  have:=decide_eq_decide.1 h1;omega
 have e3:p.den=q.den:=by
  split at h3<;>split at h3
  ·omega
  ·have h4:=congrArg ByteArray.size h3;exact absurd h4.symm (fp q.den_nz)
  ·have h4:=congrArg ByteArray.size h3;exact absurd h4 (fp p.den_nz)
  exact i5 h3
 exact Rat.ext e1 e3
open Classical in
noncomputable def qOf (r:GRat):Rat:=if h:∃q,enc q=r then h.choose else 0
theorem Aw (q:Rat):qOf (enc q)=q:=by
 unfold qOf;have h:∃p,enc p=enc q:=⟨q,rfl⟩;rw [dif_pos h];exact wQ h.choose_spec
def wR (r:GRat):Nat:=if r.den.size=0 then 1 else ah r.den
theorem nw (q:Rat):wR (enc q)=q.den:=by
 unfold wR enc;by_cases h:q.den=1
 ·simp [h,gX]
 simp only [h,if_false];rw [if_neg (fp q.den_nz),aw]
theorem Gl (q:Rat):ah (enc q).num=q.num.natAbs:=by unfold enc;exact aw _
theorem gh (q:Rat):(enc q).num.size=0↔q=0:=by
 unfold enc;show (al _).size=0↔_;rw [nv];constructor
 ·intro h;exact Rat.num_eq_zero.1 (by omega)
 intro h;rw [h];rfl
def cE (r:GRat):Bool:=
 decide (al (ah r.num)=r.num)&&decide (al (ah r.den)=r.den)&&
  (if r.num.size=0 then !r.neg&&decide (r.den.size=0) else decide (r.den.size=0)||(decide (ah r.den≠1)&&decide (Nat.gcd (ah r.num) (ah r.den)=1)))
theorem qF (q:Rat):cE (enc q)=true:=by
 have h1:al (ah (enc q).num)=(enc q).num:=by rw [Gl];rfl
 have h2:al (ah (enc q).den)=(enc q).den:=by
  unfold enc;by_cases h:q.den=1
  ·simp only [h,if_true];rw [←gf,aw]
  simp only [h,if_false];rw [aw]
 unfold cE;simp only [h1,h2,decide_true,Bool.true_and];by_cases h0:q=0
 ·subst h0;rw [jx];simp [gX]
 rw [if_neg (fun h=>h0 ((gh q).1 h))];by_cases hd:q.den=1
 ·simp [enc,hd,gX]
 have e:(enc q).den=al q.den:=by simp [enc,hd]
 rw [e,aw,Gl];simp [hd];right;exact q.reduced
theorem tg {r:GRat} (h:cE r=true):∃q,enc q=r:=by
 unfold cE at h;simp only [Bool.and_eq_true,decide_eq_true_eq] at h;obtain ⟨⟨h1,h2⟩,h3⟩:=h;by_cases h0:r.num.size=0
 ·rw [if_pos h0] at h3;simp only [Bool.and_eq_true,Bool.not_eq_true',decide_eq_true_eq] at h3;refine ⟨0,?_⟩;rw [jx];obtain ⟨n,a,b⟩:=r;simp only at h0 h3 ⊢;rw [h3.1,iB h0,iB h3.2]
 rw [if_neg h0] at h3;have hn:ah r.num≠0:=by
  intro h;rw [h,gf] at h1;rw [←h1] at h0;exact h0 rfl
 simp only [Bool.or_eq_true,Bool.and_eq_true,decide_eq_true_eq] at h3;by_cases hd:r.den.size=0
 ·refine ⟨⟨sg r.neg (ah r.num),1,by decide,by simp [Nat.Coprime]⟩,?_⟩;unfold enc;simp only [fo,qE hn,if_true,h1];obtain ⟨n,a,b⟩:=r;simp only at hd ⊢;rw [iB hd];simp
 have h4:=h3.resolve_left hd;have hd0:ah r.den≠0:=by
  intro h;rw [h,gf] at h2;rw [←h2] at hd;exact hd rfl
 refine ⟨⟨sg r.neg (ah r.num),ah r.den,hd0,by rw [fo];exact h4.2⟩,?_⟩;unfold enc;simp only [fo,qE hn,if_neg h4.1,h1,h2];obtain ⟨n,a,b⟩:=r;simp
theorem nA {r:GRat} (h:cE r=false):qOf r=0:=by
 unfold qOf;rw [dif_neg];rintro ⟨q,rfl⟩;rw [qF] at h;cases h
theorem qG {r:GRat} (h:cE r=true):enc (qOf r)=r:=by
 obtain ⟨q,rfl⟩:=tg h;rw [Aw]
theorem mG {neg:Bool} {n d:Nat} (hn:n≠0) (hd:d≠0):enc (mkRat (sg neg n) d)=⟨neg,al (n/Nat.gcd n d),if d/Nat.gcd n d=1 then cc else al (d/Nat.gcd n d)⟩:=by
 have hg:0<Nat.gcd n d:=Nat.gcd_pos_of_pos_left _ (by omega);have hq:n/Nat.gcd n d≠0:=by
  have:=Nat.div_pos (Nat.gcd_le_left d (by omega:0<n)) hg;omega
 have e1:(mkRat (sg neg n) d).num=sg neg (n/Nat.gcd n d):=by
  rw [Rat.num_mkRat,if_neg hd,fo,Nat.gcd_comm];unfold sg;split
  ·rw [Int.neg_ediv_of_dvd (Int.natCast_dvd_natCast.2 (Nat.gcd_dvd_left n d))];rfl
  rfl
 have e2:(mkRat (sg neg n) d).den=d/Nat.gcd n d:=by
  rw [Rat.den_mkRat,if_neg hd,fo,Nat.gcd_comm]
 unfold enc;rw [e1,e2,fo];simp only [qE hq];simp
def qB (n:Nat) (q:Rat):Prop:=q.num.natAbs<256^n/\q.den<256^n
theorem qB.mono {m n:Nat} {q:Rat} (h:qB m q) (hm:m<=n):qB n q:=
 have:=Nat.pow_le_pow_right (show 0<256 by decide) hm;⟨Nat.lt_of_lt_of_le h.1 this,Nat.lt_of_lt_of_le h.2 this⟩
theorem jy:qB 1 0:=by unfold qB;simp
theorem lj {n:Nat} {z:Int} {d:Nat} (hz:z.natAbs<256^n) (hd:d<256^n) (hn:0<n):qB n (mkRat z d):=by
 have h1:1<256^n:=Nat.one_lt_pow (by omega) (by decide);by_cases h:d=0
 ·subst h;rw [Rat.mkRat_zero];exact jy.mono hn
 constructor
 ·rw [Rat.num_mkRat,if_neg h];refine Nat.lt_of_le_of_lt ?_ hz;have hdv:((d.gcd z.natAbs:Nat):Int)∣z:=Int.ofNat_dvd_left.2 (Nat.gcd_dvd_right _ _);rw [Int.natAbs_ediv_of_dvd hdv];exact Nat.div_le_self _ _
 rw [Rat.den_mkRat,if_neg h];exact Nat.lt_of_le_of_lt (Nat.div_le_self _ _) hd
theorem eG {a b m n:Nat} (ha:a<256^m) (hb:b<256^n):a*b<256^(m+n):=by
 rw [Nat.pow_add];exact Nat.mul_lt_mul'' ha hb
theorem qB.pos {n:Nat} {q:Rat} (h:qB n q):0<n:=by
 rcases Nat.eq_zero_or_pos n with h0|h0
 ·subst h0;have:=h.2;have:=q.den_nz;omega
 exact h0
theorem qB.add {m n:Nat} {p q:Rat} (hp:qB m p) (hq:qB n q):qB (m+n+1) (p+q):=by
 rw [Rat.add_def'];have h1:=eG hp.1 hq.2;have h2:=eG hq.1 hp.2;have h3:=eG hp.2 hq.2;have e:256^(m+n+1)=256^(m+n)*256:=Nat.pow_succ ..;rw [Nat.add_comm n m] at h2;refine lj ?_ (by rw [e];omega) (by omega);refine Nat.lt_of_le_of_lt (Int.natAbs_add_le _ _) ?_;rw [Int.natAbs_mul,Int.natAbs_mul,Int.natAbs_natCast,Int.natAbs_natCast,e];omega
theorem qB.mul {m n:Nat} {p q:Rat} (hp:qB m p) (hq:qB n q):qB (m+n) (p*q):=by
 rw [Rat.mul_def'];have:=hp.pos;refine lj ?_ (eG hp.2 hq.2) (by omega);rw [Int.natAbs_mul];exact eG hp.1 hq.1
theorem qB.neg {n:Nat} {q:Rat} (h:qB n q):qB n (-q):=by
 unfold qB;rw [Rat.neg_num,Rat.neg_den,Int.natAbs_neg];exact h
theorem qB.sub {m n:Nat} {p q:Rat} (hp:qB m p) (hq:qB n q):qB (m+n+1) (p-q):=by
 rw [Rat.sub_eq_add_neg];exact hp.add hq.neg
theorem uy {n:Nat} {q:Rat} (h:qB n q):(enc q).num.size<=n/\(enc q).den.size<=n:=by
 constructor
 ·show (al _).size<=n;rw [bx];exact ba h.1
 unfold enc;simp only;split
 ·exact Nat.zero_le _
 rw [bx];exact ba h.2
theorem yA {n:Nat} {r:GRat} (hn:0<n) (h1:r.num.size<=n) (h2:r.den.size<=n):qB n (qOf r):=by
 by_cases h:cE r=true
 ·have e:=qG h;have a:=Gl (qOf r);have b:=nw (qOf r);rw [e] at a b;have p1:=Nat.pow_le_pow_right (show 0<256 by decide) h1;have p2:=Nat.pow_le_pow_right (show 0<256 by decide) h2;have q1:=cQ r.num;have q2:=cQ r.den;have h1:1<256^n:=Nat.one_lt_pow (by omega) (by decide);refine ⟨by omega,?_⟩;rw [←b];unfold wR;split<;>omega
 rw [nA (by simpa using h)];exact jy.mono hn
end Go.Proofs.YtcgpghifhehlhaaGreatDoor
end
section
/- Rational numbers: what sums, products and quotients of numerators and denominators are: plain. -/
namespace Go.Proofs.YtcgpghifhehlhaaGreatDoor
def bU (q:Rat):Bool:=decide (q.num<0)
theorem iC (q:Rat):sg (bU q) q.num.natAbs=q.num:=xU _
theorem ke (b:Bool) (x y:Nat):sg b x+sg b y=sg b (x+y):=by unfold sg;cases b<;>simp<;>omega
theorem mH {b c:Bool} {x y:Nat} (h:b≠c) (hxy:x<y):sg b x+sg c y=sg c (y-x):=by
 unfold sg;cases b<;>cases c<;>simp at * <;>omega
theorem mI {b c:Bool} {x y:Nat} (h:b≠c) (hxy:y<=x):sg b x+sg c y=sg b (x-y):=by
 unfold sg;cases b<;>cases c<;>simp at * <;>omega
theorem gE (b:Bool) (x d:Nat):sg b x*(d:Int)=sg b (x*d):=by unfold sg;cases b<;>simp [Int.neg_mul]
theorem CP (b c:Bool) (x y:Nat):sg b x*sg c y=sg (b !=c) (x*y):=by unfold sg;cases b<;>cases c<;>simp [Int.neg_mul,Int.mul_neg]
theorem nB (p q:Rat):p+q=mkRat (sg (bU p) (p.num.natAbs*q.den)+sg (bU q) (q.num.natAbs*p.den)) (p.den*q.den):=by
 rw [Rat.add_def',←gE,←gE,iC,iC]
theorem ll {p q:Rat} (h:p.den=q.den):p+q=mkRat (sg (bU p) p.num.natAbs+sg (bU q) q.num.natAbs) p.den:=by
 rw [Rat.add_def',iC,iC,←h,←Int.add_mul,Rat.mkRat_mul_right p.den_nz]
theorem th {p q:Rat} (h:bU p=bU q):p+q=mkRat (sg (bU p) (p.num.natAbs*q.den+q.num.natAbs*p.den)) (p.den*q.den):=by
 rw [nB,←h,ke]
theorem wS {p q:Rat} (h:bU p≠bU q) (hl:p.num.natAbs*q.den<q.num.natAbs*p.den):p+q=mkRat (sg (bU q) (q.num.natAbs*p.den-p.num.natAbs*q.den)) (p.den*q.den):=by
 rw [nB,mH h hl]
theorem wT {p q:Rat} (h:bU p≠bU q) (hl:q.num.natAbs*p.den<=p.num.natAbs*q.den):p+q=mkRat (sg (bU p) (p.num.natAbs*q.den-q.num.natAbs*p.den)) (p.den*q.den):=by
 rw [nB,mI h hl]
theorem qH {p q:Rat} (hd:p.den=q.den) (h:bU p=bU q):p+q=mkRat (sg (bU p) (p.num.natAbs+q.num.natAbs)) p.den:=by
 rw [ll hd,←h,ke]
theorem uz {p q:Rat} (hd:p.den=q.den) (h:bU p≠bU q) (hl:p.num.natAbs<q.num.natAbs):p+q=mkRat (sg (bU q) (q.num.natAbs-p.num.natAbs)) p.den:=by
 rw [ll hd,mH h hl]
theorem uA {p q:Rat} (hd:p.den=q.den) (h:bU p≠bU q) (hl:q.num.natAbs<=p.num.natAbs):p+q=mkRat (sg (bU p) (p.num.natAbs-q.num.natAbs)) p.den:=by
 rw [ll hd,mI h hl]
theorem Dk (p q:Rat):p*q=mkRat (sg (bU p !=bU q) (p.num.natAbs*q.num.natAbs)) (p.den*q.den):=by
 rw [Rat.mul_def',←CP,iC,iC]
theorem B7 {p q:Rat} (hq:q≠0):p/q=mkRat (sg (bU p !=bU q) (p.num.natAbs*q.den)) (p.den*q.num.natAbs):=by
 have hn:q.num≠0:=fun h=>hq (Rat.num_eq_zero.1 h)
 have hnn:p.den*q.num.natAbs≠0:=Nat.mul_ne_zero p.den_nz (by omega);have e:mkRat (sg (bU p !=bU q) (p.num.natAbs*q.den)) (p.den*q.num.natAbs)*q=p:=by
  have e1:q=mkRat (sg (bU q) q.num.natAbs) q.den:=by rw [iC,Rat.mkRat_self]
  have e2:p=mkRat (sg (bU p) p.num.natAbs) p.den:=by rw [iC,Rat.mkRat_self]
  conv=>lhs;rhs;rw [e1]
  conv=>rhs;rw [e2]
  rw [Rat.mkRat_mul_mkRat,CP,show ((bU p !=bU q) !=bU q)=bU p by cases bU p<;>cases bU q<;>rfl];rw [show p.num.natAbs*q.den*q.num.natAbs=p.num.natAbs*(q.den*q.num.natAbs) by rw [Nat.mul_assoc],←gE];rw [show p.den*q.num.natAbs*q.den=p.den*(q.den*q.num.natAbs) by rw [Nat.mul_assoc,Nat.mul_comm q.num.natAbs]];exact Rat.mkRat_mul_right (Nat.mul_ne_zero q.den_nz (by omega))
 have h2:p/q*q=p:=Rat.div_mul_cancel hq;have h3:=e.trans h2.symm;have h4:=congrArg (·*q⁻¹) h3;simp only [Rat.mul_assoc,Rat.mul_inv_cancel _ hq,Rat.mul_one] at h4;exact h4.symm
def fV (p q:Rat):Int:=if p<q then -1 else if q<p then 1 else 0
def ku (x y:Nat):Int:=if x<y then -1 else if y<x then 1 else 0
theorem rM (p q:Rat):p<q↔sg (bU p) (p.num.natAbs*q.den)<sg (bU q) (q.num.natAbs*p.den):=by
 rw [Rat.lt_iff,←gE,←gE,iC,iC]
theorem gY (q:Rat):bU q=true↔q<0:=by
 unfold bU;rw [decide_eq_true_iff,Rat.lt_iff];simp
theorem uB (q:Rat):(bU q=false/\q≠0)↔0<q:=by
 rw [←Bool.not_eq_true,gY,Rat.not_lt];constructor
 ·rintro ⟨h1,h2⟩;exact Rat.lt_of_le_of_ne h1 (fun h=>h2 h.symm)
 intro h;exact ⟨Rat.le_of_lt h,Rat.ne_of_gt h⟩
def zu (r:GRat):Int:=if r.num.size=0 then 0 else if r.neg=true then -1 else 1
def cK (q:Rat):Int:=fV q 0
theorem uC (q:Rat):zu (enc q)=cK q:=by
 unfold zu cK fV;by_cases h0:q=0
 ·rw [if_pos ((gh q).2 h0)];subst h0;simp [Rat.lt_irrefl]
 rw [if_neg (fun h=>h0 ((gh q).1 h))];show (if bU q=true then _ else _)=_;by_cases h:bU q=true
 ·rw [if_pos h,if_pos ((gY q).1 h)]
 rw [if_neg h,if_neg (fun h'=>h ((gY q).2 h')),if_pos ((uB q).1 ⟨by simpa using h,h0⟩)]
theorem uD {p q:Rat} (hp:bU p=false) (hq:bU q=false):fV p q=ku (p.num.natAbs*q.den) (q.num.natAbs*p.den):=by
 unfold fV ku;simp only [rM,hp,hq,sg];simp only [Bool.false_eq_true,if_false,Int.ofNat_lt]
theorem uE {p q:Rat} (hp:bU p=true) (hq:bU q=true):fV p q= - ku (p.num.natAbs*q.den) (q.num.natAbs*p.den):=by
 unfold fV ku;simp only [rM,hp,hq,sg];simp only [if_true];by_cases h1:p.num.natAbs*q.den<q.num.natAbs*p.den
 ·rw [if_neg (by omega),if_pos (by omega),if_pos h1];rfl
 by_cases h2:q.num.natAbs*p.den<p.num.natAbs*q.den
 ·rw [if_pos (by omega),if_neg h1,if_pos h2]
 rw [if_neg (by omega),if_neg (by omega),if_neg h1,if_neg h2];rfl
theorem uF {p q:Rat} (h:cK p≠cK q):fV p q=if cK p<cK q then -1 else 1:=by
 unfold cK fV at *
 grind
theorem wU {p q:Rat} (h:cK p=cK q):(bU p=true/\bU q=true)∨(bU p=false/\bU q=false):=by
 have a:=gY p;have b:=gY q;unfold cK fV at h;grind
theorem wV (q:Rat):(if (enc q).num.size=0 then enc q else ⟨!(enc q).neg,(enc q).num,(enc q).den⟩)=enc (-q):=by
 by_cases h0:q=0
 ·rw [if_pos ((gh q).2 h0)];subst h0;rfl
 rw [if_neg (fun h=>h0 ((gh q).1 h))];have hn:q.num≠0:=fun h=>h0 (Rat.num_eq_zero.1 h)
 unfold enc;simp only [Rat.neg_num,Rat.neg_den,Int.natAbs_neg];congr 1;rw [←decide_not];apply decide_eq_decide.2;omega
theorem wW (z:Int):enc (z:Rat)=⟨decide (z<0),al z.natAbs,cc⟩:=by
 simp only [enc,Rat.num_intCast,Rat.den_intCast,if_true];rfl
end Go.Proofs.YtcgpghifhehlhaaGreatDoor
end
namespace Go.Proofs.YtcgpghifhehlhaaGreatDoor
open Go.RowKit Go.Proofs.Tryz

theorem fg {a b:Nat} (h:a<=b):(ae a).length<=(ae b).length:=by
 apply bS;have:=aP (bd b);rw [am] at this;omega
theorem lm (S:Nat->Prop) (u v:Value) (x y:Nat) (w:World) (hS:∀b,S b->b<w.heap.size) (hl:(ae x).length<=999999999999) (hy:0<y) (hu:ax 1 bi w S [u] (ae x)) (hv:ax 1 bi w S [v] (ae y)):
  Calls prog 155 #[u,v] w fun e w'=>∃q r,e= .returned (.tuple #[q,r])/\ax 1 bi w' (LT w'.heap.size) [q] (ae (x/y))/\ax 1 bi w' (LT w'.heap.size) [r] (ae (x%y))/\Below w.heap.size w w':=by
 have:=cp hy;by_cases h1:x<y
 ·exact td S u v x y w hS h1 hu hv
 by_cases h2:(ae y).length=1
 ·exact nu S u v x y w hS (by omega) (by omega) h2 hu hv
 exact oX S u v x y w hS hl (by omega) (by omega) hu hv
theorem mJ (a b:ByteArray) (w:World) (ha:a.size<=500000000000) (hb:b.size<=500000000000) (h:0<ah b):
  Calls prog 113 #[.string a,.string b] w fun e w'=>e= .returned (.tuple #[.string (al (ah a/ah b)),.string (al (ah a%ah b)),.bool true])/\Below w.heap.size w w':=by
 have la:=ce a;have lb:=ce b;have hbl:=cp h;have hne:¬((ae (ah b)).length:Int)=0:=by omega
 have lq:=fg (Nat.div_le_self (ah a) (ah b));have lr:=fg (Nat.mod_le (ah a) (ah b));have vq:=am (ah a/ah b);have vr:=am (ah a%ah b);have H1:=hid (cH b w (by omega));have H2:=hid (fun w=>cH a w (by omega));have H3:=hid (fun u v w h1 h2=>lm _ u v (ah a) (ah b) w (fun _ h=>h) (by omega) h h1 h2);generalize ah a/ah b=q at *
 generalize ah a%ah b=r at *
 have HL:=hid (show (ae q).length<=1000000000000/\(ae r).length<=1000000000000/\ac (ae q)=q/\ac (ae r)=r from ⟨by omega,by omega,vq,vr⟩);clear lq lr vq vr h hbl la;go_enter func113,ntmps113
 go_wp2_with fail
 refine Calls.mono H1.out ?_;rintro e w1 ⟨v,rfl,hv,hb1⟩;have hv':=hid hv;obtain ⟨va,vc,rfl,v1,v2,v3,v4⟩:=aM hv;clear hv v4;generalize hm:(ae (ah b)).length=m at *
 go_wp2_with fail
 refine Calls.mono (H2.out _) ?_;rintro e w2 ⟨u,rfl,hu,hb2⟩;have hv2:=(aF aX).below hv'.out hb2 hb2.size;have HD:=hid (H3.out _ _ _ hu hv2);have hbb:=hb1.step hb2;clear hu hv2 hv' hm;go_wp2_with fail
 refine Calls.mono HD.out ?_;rintro e w3 ⟨q',r',rfl,hq,hr,hb3⟩;have HQ:=hid (eU _ _ _ w3 (fun _ h=>h) HL.out.1 hq);have HR:=hid hr;have HB:=hid (hbb.step hb3);clear hr hq;rw [HL.out.2.2.1] at HQ;go_wp2_with fail
 refine Calls.mono HQ.out ?_;rintro e w4 ⟨rfl,hb4⟩;have hr4:=(aF aX).below HR.out hb4 hb4.size;have HR4:=hid (eU _ _ _ w4 (fun _ h=>h) HL.out.2.1 hr4);rw [HL.out.2.2.2] at HR4;clear hr4;go_wp2_with fail
 refine Calls.mono HR4.out ?_;rintro e w5 ⟨rfl,hb5⟩;go_wp2
 go_ret3
 exact ⟨rfl,HB.out.step (hb4.step hb5)⟩
def oZ (w:World):Value->Nat
 | .slice (some a) n _=>ac ((List.range n).map fun j=>match w.cell? ⟨a.block,a.off+j,none⟩ with|some (.int _ x)=>x.toNat|_=>0)
 |_=>0
theorem jz {w:World} {S:Nat->Prop} {v:Value} {xs:List Nat} (h:ax 1 bi w S [v] xs):oZ w v=ac xs:=by
 obtain ⟨a,cap,rfl,h1,h2,h3,h4⟩:=aM h;rcases h4 with rfl|⟨b,off,rfl,h4⟩
 ·cases a<;>simp [oZ,ac]
 simp only [oZ];congr 1;apply List.ext_getElem (by simp);intro j hj1 hj2;simp only [List.getElem_map,List.getElem_range];rw [(h4.u32 hj2).1];simp
theorem rN (a b:ByteArray) (w:World) (ha:a.size<=500000000000) (hb:b.size<=500000000000):
  Calls prog 112 #[.string a,.string b] w fun e w'=>e= .returned (.string (al (Nat.gcd (ah a) (ah b))))/\Below w.heap.size w w':=by
 have la:=ce a;have lb:=ce b;have H1:=hid (cH a w (by omega));have H2:=hid (fun w=>cH b w (by omega));obtain ⟨A,hA⟩:∃A,A=ah a:=⟨_,rfl⟩;obtain ⟨B,hB⟩:∃A,A=ah b:=⟨_,rfl⟩;rw [←hA] at la H1 ⊢;rw [←hB] at lb H2 ⊢;have hla:(ae A).length<=500000000000:=by omega
 have hlb:(ae B).length<=500000000000:=by omega
 clear la lb hA hB;go_enter func112,ntmps112
 go_wp2_with fail
 refine Calls.mono H1.out ?_;rintro e w1 ⟨u,rfl,hu,hb1⟩;have HU:=hid hu;clear hu;go_wp2_with fail
 refine Calls.mono (H2.out _) ?_;rintro e w2 ⟨v,rfl,hv,hb2⟩;have HU2:=hid ((aF aX).below HU.out hb2 hb2.size);have HV2:=hid hv;have HB:=hid (hb1.step hb2);clear hv;have HLa:=hid hla;have HLb:=hid hlb;clear hla hlb;go_wp2
 go_loopw [5,6,7,8] (fun p q _ _ wr=>∃(x y:Nat),Hid (ax 1 bi wr (LT wr.heap.size) [p] (ae x))/\Hid (ax 1 bi wr (LT wr.heap.size) [q] (ae y))/\Hid (Below w.heap.size w wr)/\Hid (Nat.gcd x y=Nat.gcd A B)/\Hid ((ae x).length<=500000000000)/\Hid ((ae y).length<=500000000000)) (fun _ q _ _ wr=>oZ wr q)
 case atStart=>exact ⟨A,B,HU2,HV2,HB,rfl,HLa,HLb⟩
 case round=>
  clear HU2 HV2 HB HU H1 H2;obtain ⟨x,y,HX,HY,HB,HG,HLx,HLy⟩:=hrel;have hy:=HY.out;have hms:=hid (jz hy);rw [am] at hms;obtain ⟨qa,qc,rfl,q1,q2,q3,q4⟩:=aM hy;clear q4 hy;by_cases h0:0<y
  ·have hyl:=cp h0;have HD:=hid (lm _ _ _ x y _ (fun _ h=>h) (Nat.le_trans HLx.out (by decide)) h0 HX.out HY.out);have HLr:=hid (Nat.le_trans (fg (Nat.le_of_lt (Nat.mod_lt x h0))) HLy.out);have HGr:=hid (show Nat.gcd y (x%y)=Nat.gcd A B by rw [←HG.out,Nat.gcd_comm y,←Nat.gcd_rec,Nat.gcd_comm]);have H0:=hid (Nat.mod_lt x h0);generalize x%y=z at *
   obtain ⟨n,hn⟩:∃n,n=(ae y).length:=⟨_,rfl⟩;rw [←hn] at HD HY q1 hms hyl ⊢;clear HLx HG HX h0 hn;go_wp2_with fail
   refine Calls.mono HD.out ?_;rintro e w3 ⟨q',r',rfl,hq,hr,hb3⟩;have HR:=hid hr;have HB3:=hid (HB.out.step hb3);have hms3:=hid (jz hr);rw [am] at hms3;have HY3:=hid ((aF aX).below HY.out hb3 hb3.size);clear hq hr;go_wp2
   go_roundw
   case rel=>exact ⟨y,z,HY3,HR,HB3,HGr,HLy,HLr⟩
   case measure=>
    have e1:=hms.out;have e2:=hms3.out;have e3:=H0.out;rw [e1];rw [e2];exact e3
  have hy0:y=0:=by omega
  subst hy0;rw [bm] at q1 hms ⊢;have HT:=hid (eU _ _ _ _ (fun _ h=>h) (Nat.le_trans HLx.out (by decide)) HX.out);have hg:=HG.out;rw [Nat.gcd_zero_right] at hg;rw [am,hg] at HT;go_wp2_with fail
  refine Calls.mono HT.out ?_;rintro e w4 ⟨rfl,hb4⟩;go_wp2
  go_ret
  exact ⟨rfl,HB.out.step hb4⟩

def RNat (w:World) (v:Value) (n:Nat):Prop:=ax 1 bi w (LT w.heap.size) [v] (ae n)
theorem RNat.below {w w':World} {v:Value} {n:Nat} (h:RNat w v n) (hb:Below w.heap.size w w'):RNat w' v n:=(aF aX).below h hb hb.size
theorem RNat.alloc {w:World} {v:Value} {n:Nat} (h:RNat w v n) (o:Obj):RNat (w.alloc o) v n:=h.below ((Below.refl _ _).alloc (Nat.le_refl _) _)
def NB (k n:Nat):Prop:=n<256^k
theorem NB.limbs {k n:Nat} (h:NB k n):(ae n).length<=k:=Nat.le_trans (gB _) (ba h)
theorem NB.mono {j k n:Nat} (h:NB j n) (hk:j<=k):NB k n:=Nat.lt_of_lt_of_le h (Nat.pow_le_pow_right (by decide) hk)
theorem NB.le {k m n:Nat} (h:NB k n) (hm:m<=n):NB k m:=Nat.lt_of_le_of_lt hm h
theorem NB.mul {j k m n:Nat} (h:NB j m) (h':NB k n):NB (j+k) (m*n):=eG h h'
theorem NB.add {j m n:Nat} (h:NB j m) (h':NB j n):NB (j+1) (m+n):=by
 unfold NB at *
 rw [Nat.pow_succ];omega
theorem RNat.zero {w:World} {u:Value} (h:RNat w u 0):∃a c,u= .slice a 0 c:=by
 obtain ⟨a,c,rfl,_⟩:=aM h;rw [bm];exact ⟨a,c,rfl⟩
def Blk3 (w:World) (b:Nat) (T:Nat) (x y z:Value):Prop:=w.heap[b]? =some (.cells #[x,y,z] T (0,0))
theorem Blk3.new (w:World) (T:Nat) (x y z:Value):Blk3 (w.alloc (.cells #[x,y,z] T)) w.heap.size T x y z:=heap_alloc_new w _
theorem Blk3.below {w w':World} {b T B:Nat} {x y z:Value} (h:Blk3 w b T x y z) (hb:Below B w w') (hB:b<B):Blk3 w' b T x y z:=by
 unfold Blk3 at *;rw [hb.block b hB];exact h
theorem Blk3.lt {w:World} {b T:Nat} {x y z:Value} (h:Blk3 w b T x y z):b<w.heap.size:=(Array.getElem?_eq_some_iff.1 h).1
theorem Blk3.alloc {w:World} {b T:Nat} {x y z:Value} (h:Blk3 w b T x y z) (o:Obj):Blk3 (w.alloc o) b T x y z:=by
 unfold Blk3 at *;rw [Below.heap_alloc _ _ _ (Blk3.lt h)];exact h
theorem Blk3.cells {w:World} {b T:Nat} {x y z:Value} (h:Blk3 w b T x y z):
  w.cell? ⟨b,0,none⟩=some x/\w.cell? ⟨b,1,none⟩=some y/\w.cell? ⟨b,2,none⟩=some z/\(∀j,w.frozen? ⟨b,j,none⟩=false):=by
 unfold Blk3 at h;simp [World.cell?,World.frozen?,h]
theorem Blk3.set0 {w:World} {b T:Nat} {x y z:Value} (h:Blk3 w b T x y z) (v:Value):Blk3 (w.setCell ⟨b,0,none⟩ v) b T v y z:=by
 unfold Blk3 at *;rw [heap_setCell_same w b 0 _ T v h];rfl
theorem Blk3.set1 {w:World} {b T:Nat} {x y z:Value} (h:Blk3 w b T x y z) (v:Value):Blk3 (w.setCell ⟨b,1,none⟩ v) b T x v z:=by
 unfold Blk3 at *;rw [heap_setCell_same w b 1 _ T v h];rfl
theorem Blk3.set2 {w:World} {b T:Nat} {x y z:Value} (h:Blk3 w b T x y z) (v:Value):Blk3 (w.setCell ⟨b,2,none⟩ v) b T x y v:=by
 unfold Blk3 at *;rw [heap_setCell_same w b 2 _ T v h];rfl
theorem Blk3.other {w:World} {b b' T:Nat} {x y z:Value} (h:Blk3 w b T x y z) (hne:b'≠b) (p:Nat) (v:Value):Blk3 (w.setCell ⟨b',p,none⟩ v) b T x y z:=by
 unfold Blk3 at *;rw [Below.heap_setCell _ _ _ _ (fun e=>hne e.symm)];exact h
theorem Blk3.stored {X:World} {b T:Nat} {x y z:Value} (h:Blk3 X b T x y z) (x' y' z':Value):
  (X.setCell ⟨b,0,none⟩ x').cell? ⟨b,0,none⟩=some x'/\((X.setCell ⟨b,0,none⟩ x').setCell ⟨b,1,none⟩ y').cell? ⟨b,1,none⟩=some y'/\
  (((X.setCell ⟨b,0,none⟩ x').setCell ⟨b,1,none⟩ y').setCell ⟨b,2,none⟩ z').cell? ⟨b,2,none⟩=some z'/\Blk3 (((X.setCell ⟨b,0,none⟩ x').setCell ⟨b,1,none⟩ y').setCell ⟨b,2,none⟩ z') b T x' y' z':=
 ⟨(h.set0 x').cells.1,((h.set0 x').set1 y').cells.2.1,(((h.set0 x').set1 y').set2 z').cells.2.2.1,((h.set0 x').set1 y').set2 z'⟩
theorem bC {P:Program} {fn:Func} {R:Ending->World->Prop} {a:Act} {W:World} {b T:Nat} {x y z:Value} (h:Blk3 W b T x y z)
  (hres:∀W',W'.cell? ⟨b,0,none⟩=some x->W'.cell? ⟨b,1,none⟩=some y->W'.cell? ⟨b,2,none⟩=some z->(results fn a.tmps).run P W'= .ok (.agg #[x,y,z]) W') (hd:a.defers=[]) (hR:R (.returned (.agg #[x,y,z])) W):bodyPost P fn R .ret a W:=
 bodyPost_ret (hres W h.cells.1 h.cells.2.1 h.cells.2.2.1) hd hR
theorem RNat.drew {w:World} {v:Value} {n:Nat} (h:RNat w v n):RNat w.drew v n:=h
def Bx (w:World) (b:Nat) (r:GRat):Prop:=Blk3 w b 32 (.bool r.neg) (.string r.num) (.string r.den)
theorem Bx.below {w w':World} {b:Nat} {r:GRat} (h:Bx w b r) (hb:Below w.heap.size w w'):Bx w' b r:=Blk3.below h hb (Blk3.lt h)
theorem Bx.new (w:World) (r:GRat):Bx (w.alloc (.cells #[.bool r.neg,.string r.num,.string r.den] 32)) w.heap.size r:=Blk3.new w _ _ _ _
theorem Bx.alloc {w:World} {b:Nat} {r:GRat} (h:Bx w b r) (o:Obj):Bx (w.alloc o) b r:=Blk3.alloc h o
theorem Bx.drew {w:World} {b:Nat} {r:GRat} (h:Bx w b r):Bx w.drew b r:=h
theorem Bx.facts {w:World} {b:Nat} {r:GRat} (h:Bx w b r):
  w.cell? ⟨b,0,none⟩=some (.bool r.neg)/\w.cell? ⟨b,1,none⟩=some (.string r.num)/\w.cell? ⟨b,2,none⟩=some (.string r.den)/\(∀j,w.frozen? ⟨b,j,none⟩=false)/\b<w.heap.size:=
 ⟨h.cells.1,h.cells.2.1,h.cells.2.2.1,h.cells.2.2.2,Blk3.lt h⟩
def gZ:GRat:=⟨false,{data:= #[]},{data:= #[]}⟩
theorem ln:gZ=enc 0:=by rw [jx];rfl
def Bx3 (w w1:World) (r1 r2:GRat):Prop:=Bx w1 w.heap.size r1/\Bx w1 (w.heap.size+1) r2/\Bx w1 (w.heap.size+1+1) gZ/\Below w.heap.size w w1
theorem Bx3.new (w:World) (r1 r2:GRat):Bx3 w (((w.alloc (.cells #[.bool r1.neg,.string r1.num,.string r1.den] 32)).alloc (.cells #[.bool r2.neg,.string r2.num,.string r2.den] 32)).alloc (.cells #[.bool false,.string {data:= #[]},.string {data:= #[]}] 32)) r1 r2:=by
 have e1:(w.alloc (.cells #[.bool r1.neg,.string r1.num,.string r1.den] 32)).heap.size=w.heap.size+1:=by simp
 have h2:=Bx.new (w.alloc (.cells #[.bool r1.neg,.string r1.num,.string r1.den] 32)) r2;rw [e1] at h2;have e2:((w.alloc (.cells #[.bool r1.neg,.string r1.num,.string r1.den] 32)).alloc (.cells #[.bool r2.neg,.string r2.num,.string r2.den] 32)).heap.size=w.heap.size+1+1:=by simp
 have h3:=Bx.new ((w.alloc (.cells #[.bool r1.neg,.string r1.num,.string r1.den] 32)).alloc (.cells #[.bool r2.neg,.string r2.num,.string r2.den] 32)) gZ;rw [e2] at h3;exact ⟨((Bx.new w r1).alloc _).alloc _,h2.alloc _,h3,(((Below.refl _ _).alloc (Nat.le_refl _) _).alloc (by simp) _).alloc (by simp;omega) _⟩
theorem Bx3.next {w w1 w2:World} {r1 r2:GRat} (h:Bx3 w w1 r1 r2) (hb:Below w1.heap.size w1 w2):Bx3 w w2 r1 r2:=
 ⟨h.1.below hb,h.2.1.below hb,h.2.2.1.below hb,h.2.2.2.step hb⟩
theorem Bx3.ret {w w1:World} {r1 r2:GRat} (h:Bx3 w w1 r1 r2) (q:GRat):
  Blk3 (((w1.setCell ⟨w.heap.size+1+1,0,none⟩ (.bool q.neg)).setCell ⟨w.heap.size+1+1,1,none⟩ (.string q.num)).setCell ⟨w.heap.size+1+1,2,none⟩ (.string q.den)) (w.heap.size+1+1) 32 (.bool q.neg) (.string q.num) (.string q.den)/\
  Below w.heap.size w (((w1.setCell ⟨w.heap.size+1+1,0,none⟩ (.bool q.neg)).setCell ⟨w.heap.size+1+1,1,none⟩ (.string q.num)).setCell ⟨w.heap.size+1+1,2,none⟩ (.string q.den)):=
 ⟨(Blk3.stored h.2.2.1 _ _ _).2.2.2,((h.2.2.2.setCell (by simp;omega) _).setCell (by simp;omega) _).setCell (by simp;omega) _⟩
theorem Bx3.drew {w w1:World} {r1 r2:GRat} (h:Bx3 w w1 r1 r2):Bx3 w w1.drew r1 r2:=⟨h.1.drew,h.2.1.drew,h.2.2.1.drew,Below.drew h.2.2.2⟩
def Bx2 (w w1:World) (r1 r2:GRat):Prop:=Bx w1 w.heap.size r1/\Bx w1 (w.heap.size+1) r2/\Below w.heap.size w w1
theorem Bx2.new (w:World) (r1 r2:GRat):Bx2 w ((w.alloc (.cells #[.bool r1.neg,.string r1.num,.string r1.den] 32)).alloc (.cells #[.bool r2.neg,.string r2.num,.string r2.den] 32)) r1 r2:=by
 have e1:(w.alloc (.cells #[.bool r1.neg,.string r1.num,.string r1.den] 32)).heap.size=w.heap.size+1:=by simp
 have h2:=Bx.new (w.alloc (.cells #[.bool r1.neg,.string r1.num,.string r1.den] 32)) r2;rw [e1] at h2;exact ⟨(Bx.new w r1).alloc _,h2,((Below.refl _ _).alloc (Nat.le_refl _) _).alloc (by simp) _⟩
theorem Bx2.next {w w1 w2:World} {r1 r2:GRat} (h:Bx2 w w1 r1 r2) (hb:Below w1.heap.size w1 w2):Bx2 w w2 r1 r2:=
 ⟨h.1.below hb,h.2.1.below hb,h.2.2.step hb⟩
theorem Bx2.ret {w w1:World} {r1 r2:GRat} (h:Bx2 w w1 r1 r2) (q:GRat):
  Blk3 (((w1.setCell ⟨w.heap.size+1,0,none⟩ (.bool q.neg)).setCell ⟨w.heap.size+1,1,none⟩ (.string q.num)).setCell ⟨w.heap.size+1,2,none⟩ (.string q.den)) (w.heap.size+1) 32 (.bool q.neg) (.string q.num) (.string q.den)/\
  Below w.heap.size w (((w1.setCell ⟨w.heap.size+1,0,none⟩ (.bool q.neg)).setCell ⟨w.heap.size+1,1,none⟩ (.string q.num)).setCell ⟨w.heap.size+1,2,none⟩ (.string q.den)):=
 ⟨(Blk3.stored h.2.1 _ _ _).2.2.2,((h.2.2.setCell (by simp) _).setCell (by simp) _).setCell (by simp) _⟩
theorem Bx2.drew {w w1:World} {r1 r2:GRat} (h:Bx2 w w1 r1 r2):Bx2 w w1.drew r1 r2:=⟨h.1.drew,h.2.1.drew,Below.drew h.2.2⟩
def Bx1 (w w1:World):Prop:=Bx w1 w.heap.size gZ/\Below w.heap.size w w1
theorem Bx1.new (w:World):Bx1 w (w.alloc (.cells #[.bool false,.string {data:= #[]},.string {data:= #[]}] 32)):=⟨Bx.new w gZ,(Below.refl _ _).alloc (Nat.le_refl _) _⟩
theorem Bx1.next {w w1 w2:World} (h:Bx1 w w1) (hb:Below w1.heap.size w1 w2):Bx1 w w2:=⟨h.1.below hb,h.2.step hb⟩
theorem Bx1.ret {w w1:World} (h:Bx1 w w1) (q:GRat):
  Blk3 (((w1.setCell ⟨w.heap.size,0,none⟩ (.bool q.neg)).setCell ⟨w.heap.size,1,none⟩ (.string q.num)).setCell ⟨w.heap.size,2,none⟩ (.string q.den)) w.heap.size 32 (.bool q.neg) (.string q.num) (.string q.den)/\
  Below w.heap.size w (((w1.setCell ⟨w.heap.size,0,none⟩ (.bool q.neg)).setCell ⟨w.heap.size,1,none⟩ (.string q.num)).setCell ⟨w.heap.size,2,none⟩ (.string q.den)):=
 ⟨(Blk3.stored h.1 _ _ _).2.2.2,((h.2.setCell (Nat.le_refl _) _).setCell (Nat.le_refl _) _).setCell (Nat.le_refl _) _⟩
attribute [local go_sem ↓] Go.wp_at_zero Go.wp_at_succ
end Go.Proofs.YtcgpghifhehlhaaGreatDoor
section
/- Refunds, rates and what is kept, over rational numbers: plain. -/
namespace Go.Proofs.YtcgpghifhehlhaaGreatDoor
def NonNeg (l:List Rat):Prop:=∀x∈l,0<=x
theorem NonNeg.get {l:List Rat} (h:NonNeg l) (k:Nat):0<=l.getD k 0:=by
 rcases Nat.lt_or_ge k l.length with h1|h1
 ·simp only [List.getD,List.getElem?_eq_getElem h1,Option.getD_some];exact h _ (List.getElem_mem h1)
 simp [List.getD,List.getElem?_eq_none h1]
end Go.Proofs.YtcgpghifhehlhaaGreatDoor
end
section
/- Refunds grow with the rates; amounts of the laws: plain. -/
namespace Go.Proofs.YtcgpghifhehlhaaGreatDoor
end Go.Proofs.YtcgpghifhehlhaaGreatDoor
end
namespace Go.Proofs.YtcgpghifhehlhaaGreatDoor
open Go.RowKit Go.Proofs.Tryz
attribute [local go_sem ↓] Go.wp_at_zero Go.wp_at_succ
theorem uI (q:Rat):tf (enc q)=enc (-q):=wV q
theorem lp (q:Rat):gW (enc q)=cK q:=uC q
end Go.Proofs.YtcgpghifhehlhaaGreatDoor
