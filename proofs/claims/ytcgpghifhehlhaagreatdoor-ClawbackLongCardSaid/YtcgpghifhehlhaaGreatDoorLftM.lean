/- The abstract machine: contracts that were proved over the model, taken over: the rule. No program in sight. -/
import Derived.Test.YtcgpghifhehlhaaGreatDoorAb7M
import Derived.Test.YtcgpghifhehlhaaGreatDoorProg
import Derived.Test.YtcgpghifhehlhaaGreatDoorJfM
import Derived.Deep.QuietTactic
import Derived.BigQuiet
import Derived.BigRegion
import Derived.Outline
set_option linter.unusedVariables false
set_option maxHeartbeats 1000000
set_option maxRecDepth 100000
set_option linter.unusedSimpArgs false
namespace Go.Proofs.YtcgpghifhehlhaaGreatDoor
open Go Go.RowKit Go.Proofs.Tryz
def rI:Value->A1
 | .agg cs=> .agg (cs.toList.map .lit)
 |v=> .one (.lit v)
theorem sY {κ:Kx} {v u:Value} (h:bb κ u (rI v)):u=v:=by
 have key:∀(l vs:List Value),denVs κ vs (l.map .lit)->vs=l:=by
  intro l;induction l with
  |nil=>intro vs h;exact List.eq_nil_of_length_eq_zero h.length
  |cons x l ih=>
   intro vs h;cases vs with
   |nil=>exact h.elim
   |cons y vs=>
    have h1:=h.1;simp only [den] at h1;rw [ih vs h.2,h1.1]
 cases v with
 |agg cs=>
  obtain ⟨vs,h1,h2⟩:=h;rw [h1,key _ _ h2]
 |_=>
  simp only [rI,bb,den] at h;exact h.1
theorem kV {κ:Kx}:∀{l vs:List Value},cz κ vs (l.map rI)->vs=l
 |[],[],_=>rfl
 |[],_::_,h=>h.elim
 |_::_,[],h=>h.elim
 |x::l,v::vs,h=>by rw [sY h.1,kV h.2]
theorem eE {P:Program} {f:FuncId} (hfn:l5 P f) (vals:List Value) (v:Value) (h:∀w,Calls P f vals.toArray w fun e w'=>e= .returned v/\Below w.heap.size w w'):
  ch P f (vals.map rI) (qb v):=
 ⟨hfn,fun w T vs _ hd=>by
  rw [kV hd];exact (h w).mono fun e w' ⟨he,hb⟩=>⟨v,he,hb,kE _ _⟩⟩
theorem iv {P : Program} {f : FuncId} {fn : Func} (h : P.funcs[f]? = some fn) (h2 : fn.name ≠ "runtime.NumGoroutine") (h3 : fn.body.isNone = false) : l5 P f := ⟨fn, h, h2, h3⟩
end Go.Proofs.YtcgpghifhehlhaaGreatDoor
section
/- Plain numbers: bytes and 32-bit limbs of natural numbers. No program in sight. -/
namespace Go.Proofs.YtcgpghifhehlhaaGreatDoor
theorem jL (k:Nat):0<4294967296^k:=Nat.pow_pos (by decide)
def ac:List Nat->Nat
 |[]=>0
 |x::r=>x+4294967296*ac r
def ae (n:Nat):List Nat:=if h:n=0 then [] else n%4294967296::ae (n/4294967296)
termination_by n
decreasing_by omega
theorem bm:ae 0=[]:=by unfold ae;simp
theorem dR {n:Nat} (h:n≠0):ae n=n%4294967296::ae (n/4294967296):=by rw [ae,dif_neg h]
theorem am (n:Nat):ac (ae n)=n:=by
 induction n using Nat.strongRecOn with
 |_ n ih=>
  by_cases h:n=0
  ·subst h;rw [bm];rfl
  rw [dR h];show n%4294967296+4294967296*ac _=n;rw [ih _ (by omega)];omega
theorem bd (n:Nat):∀x∈ae n,x<4294967296:=by
 induction n using Nat.strongRecOn with
 |_ n ih=>
  by_cases h:n=0
  ·subst h;rw [bm];simp
  rw [dR h];intro x hx;rcases List.mem_cons.1 hx with rfl|hx
  ·omega
  exact ih _ (by omega) x hx
theorem cp {n:Nat} (h:0<n):0<(ae n).length:=by rw [dR (by omega)];simp
theorem cG (xs ys:List Nat):ac (xs++ys)=ac xs+4294967296^xs.length*ac ys:=by
 induction xs with
 |nil=>simp [ac]
 |cons x r ih=>simp only [List.cons_append,ac,ih,List.length_cons,Nat.pow_succ,Nat.mul_add];rw [Nat.mul_comm (4294967296^r.length) 4294967296,Nat.mul_assoc];omega
theorem aP {xs:List Nat} (h:∀x∈xs,x<4294967296):ac xs<4294967296^xs.length:=by
 induction xs with
 |nil=>simp [ac]
 |cons x r ih=>
  have h1:=h x (by simp);have h2:=ih (fun y hy=>h y (by simp [hy]));simp only [ac,List.length_cons,Nat.pow_succ];have h3:ac r+1<=4294967296^r.length:=h2;have h4:=Nat.mul_le_mul_left 4294967296 h3;rw [Nat.mul_comm (4294967296^r.length)];omega
theorem oI {xs:List Nat} (h:∀x∈xs,x<4294967296) (hl:∀(hne:xs≠[]),xs.getLast hne≠0):ae (ac xs)=xs:=by
 induction xs with
 |nil=>exact bm
 |cons x r ih=>
  have h1:=h x (by simp);have ih':=ih (fun y hy=>h y (by simp [hy])) (fun hne=>by have:=hl (by simp);rwa [List.getLast_cons hne] at this);have hpos:x+4294967296*ac r≠0:=by
   by_cases hr:r=[]
   ·subst hr;have:=hl (by simp);simp at this;omega
   intro h0;have h2:ac r=0:=by omega
   rw [h2,bm] at ih';exact hr ih'.symm
  show ae (x+4294967296*ac r)=x::r;rw [dR hpos,show (x+4294967296*ac r)%4294967296=x by omega,show (x+4294967296*ac r)/4294967296=ac r by omega,ih']
theorem d9 (k:Nat):ac (List.replicate k 0)=0:=by
 induction k with
 |zero=>rfl
 |succ k ih=>simp [List.replicate_succ,ac,ih]
theorem bS {n k : Nat} (h : n < 4294967296 ^ k) : (ae n).length ≤ k := by
  induction k generalizing n with
  | zero => have : n = 0 := by simpa using h
            subst this; rw [bm]; simp
  | succ k ih =>
    by_cases h0 : n = 0
    · subst h0; rw [bm]; simp
    rw [dR h0, List.length_cons]
    have := ih (n := n / 4294967296) (by rw [Nat.pow_succ] at h; exact Nat.div_lt_of_lt_mul (by rw [Nat.mul_comm]; exact h))
    omega
theorem kW {n k:Nat} (h:4294967296^k<=n):k<(ae n).length:=by
 have h1:=aP (bd n);rw [am] at h1;exact (Nat.pow_lt_pow_iff_right (by decide:1<4294967296)).1 (Nat.lt_of_le_of_lt h h1)
theorem js {xs:List Nat} (h:∀x∈xs,x<4294967296) {i:Nat} (hi:i<xs.length):ac xs/4294967296^i%4294967296=xs[i]:=by
 induction xs generalizing i with
 |nil=>simp at hi
 |cons x r ih=>
  have h1:=h x (by simp);cases i with
  |zero=>simp only [ac,Nat.pow_zero,Nat.div_one,List.getElem_cons_zero];omega
  |succ i=>
   simp only [ac,List.getElem_cons_succ];rw [Nat.pow_succ,Nat.mul_comm (4294967296^i),←Nat.div_div_eq_div_mul,show (x+4294967296*ac r)/4294967296=ac r by omega];exact ih (fun y hy=>h y (by simp [hy])) (by simpa using hi)
theorem aD (xs:List Nat) (x:Nat):ac (xs++[x])=ac xs+4294967296^xs.length*x:=by
 rw [cG];simp [ac]
theorem br (xs:List Nat) (i:Nat) (hlt:i<xs.length):ac (xs.take (i+1))=ac (xs.take i)+4294967296^i*xs[i]:=by
 rw [List.take_succ_eq_append_getElem hlt,aD,List.length_take,Nat.min_eq_left (by omega)]
def cq (n v:Nat):List Nat:=(List.range n).map fun j=>v/4294967296^j%4294967296
theorem cj (n v:Nat):(cq n v).length=n:=by simp [cq]
theorem eb (n v i:Nat) (h:i<n):(cq n v)[i]? =some (v/4294967296^i%4294967296):=by simp [cq,h]
theorem gA (n v:Nat):ac (cq n v)=v%4294967296^n:=by
 induction n with
 |zero=>simp [cq,ac,Nat.mod_one]
 |succ n ih=>
  have:cq (n+1) v=cq n v++[v/4294967296^n%4294967296]:=by simp [cq,List.range_succ]
  rw [this,aD,cj,ih,Nat.pow_succ,Nat.mod_mul]
theorem oJ {xs:List Nat} (h:∀x∈xs,x<4294967296):cq xs.length (ac xs)=xs:=by
 apply List.ext_getElem?;intro i;by_cases hi:i<xs.length
 ·rw [eb _ _ _ hi,js h hi,List.getElem?_eq_getElem hi]
 rw [List.getElem?_eq_none (by rw [cj];omega),List.getElem?_eq_none (by omega)]
def aK (l:List UInt8):Nat:=l.foldl (fun a b=>a*256+b.toNat) 0
def bv (n:Nat):List UInt8:=if _h:n=0 then [] else bv (n/256)++[UInt8.ofNat (n%256)]
termination_by n
decreasing_by omega
theorem ct:bv 0=[]:=by unfold bv;simp
theorem ee {n:Nat} (h:n≠0):bv n=bv (n/256)++[UInt8.ofNat (n%256)]:=by rw [bv,dif_neg h]
theorem fT (l:List UInt8) (b:UInt8):aK (l++[b])=aK l*256+b.toNat:=by simp [aK]
theorem dg (n:Nat):aK (bv n)=n:=by
 induction n using Nat.strongRecOn with
 |_ n ih=>
  by_cases h:n=0
  ·subst h;rw [ct];rfl
  rw [ee h,fT,ih _ (by omega)];have:(UInt8.ofNat (n%256)).toNat=n%256:=by simp
  omega
theorem oK (r:List UInt8):∀a:Nat,r.foldl (fun a b=>a*256+b.toNat) a=a*256^r.length+aK r:=by
 induction r with
 |nil=>intro a;show a=a*1+0;omega
 |cons b r ih=>
  intro a;show r.foldl (fun a b=>a*256+b.toNat) (a*256+b.toNat)=a*256^(r.length+1)+r.foldl (fun a b=>a*256+b.toNat) (0*256+b.toNat);rw [ih,ih,Nat.pow_succ,Nat.mul_comm (256^r.length),←Nat.mul_assoc,Nat.add_mul (a*256),Nat.zero_mul,Nat.zero_add,Nat.add_assoc]
theorem eZ (l r:List UInt8):aK (l++r)=aK l*256^r.length+aK r:=by
 simp only [aK,List.foldl_append];exact oK r _
theorem dD (b:UInt8) (r:List UInt8):aK (b::r)=b.toNat*256^r.length+aK r:=by
 have h:=eZ [b] r;have e:aK [b]=b.toNat:=by show 0*256+b.toNat=_;omega
 rw [e] at h;exact h
theorem eQ (l:List UInt8):aK l<256^l.length:=by
 induction l with
 |nil=>simp [aK]
 |cons b r ih=>
  rw [dD,List.length_cons,Nat.pow_succ];have h1:b.toNat+1<=256:=b.toNat_lt;have h2:=Nat.mul_le_mul_right (256^r.length) h1;rw [Nat.add_mul] at h2;rw [Nat.mul_comm (256^r.length)];omega
theorem jM (k : Nat) : ∀ l : List UInt8, l.length = k → (∀ (h : l ≠ []), l.head h ≠ 0) → bv (aK l) = l := by
  induction k with
  | zero => intro l hl _; have : l = [] := List.eq_nil_of_length_eq_zero hl
            subst this; exact ct
  | succ k ih =>
    intro l hl hh
    have hne : l ≠ [] := by intro h; subst h; simp at hl
    have hsp := List.dropLast_concat_getLast hne
    generalize l.dropLast = r at hsp
    generalize l.getLast hne = b at hsp
    subst hsp
    have hrl : r.length = k := by simpa using hl
    have hr := ih r hrl (fun h => by have := hh (by simp); rwa [List.head_append_left h] at this)
    rw [fT]
    have hb := b.toNat_lt
    have hpos : aK r * 256 + b.toNat ≠ 0 := by
      intro h0
      have h1 : aK r = 0 := by omega
      have h2 : b.toNat = 0 := by omega
      rw [h1, ct] at hr
      subst hr
      have := hh (by simp)
      simp only [List.nil_append, List.head_cons] at this
      exact this (UInt8.toNat_inj.1 (by simpa using h2))
    rw [ee hpos, show (aK r * 256 + b.toNat) / 256 = aK r by omega, show (aK r * 256 + b.toNat) % 256 = b.toNat by omega, hr]
    simp
theorem nf {l:List UInt8} (h:∀(h:l≠[]),l.head h≠0):bv (aK l)=l:=jM _ l rfl h
theorem ba {n k : Nat} (h : n < 256 ^ k) : (bv n).length ≤ k := by
  induction k generalizing n with
  | zero => have : n = 0 := by simpa using h
            subst this; rw [ct]; simp
  | succ k ih =>
    by_cases h0 : n = 0
    · subst h0; rw [ct]; simp
    rw [ee h0, List.length_append, List.length_singleton]
    have := ih (n := n / 256) (by rw [Nat.pow_succ] at h; exact Nat.div_lt_of_lt_mul (by rw [Nat.mul_comm]; exact h))
    omega
theorem gU (n:Nat):n<256^(bv n).length:=by
 have:=eQ (bv n);rwa [dg] at this
def al (n:Nat):ByteArray:=⟨(bv n).toArray⟩
def ah (s:ByteArray):Nat:=aK s.data.toList
theorem aw (n:Nat):ah (al n)=n:=by simp [ah,al,dg]
theorem i5 {a b:Nat} (h:al a=al b):a=b:=by have:=congrArg ah h;simpa [aw] using this
theorem bx (n:Nat):(al n).size=(bv n).length:=by simp [al,ByteArray.size]
theorem cQ (s:ByteArray):ah s<256^s.size:=by
 exact eQ s.data.toList
end Go.Proofs.YtcgpghifhehlhaaGreatDoor
end
namespace Go.Proofs.YtcgpghifhehlhaaGreatDoor
open Go.RowKit Go.Proofs.Tryz
def xT:Value->Nat| .string u=>u.size|_=>0
theorem eM {s:ByteArray} (h:∀(h:0<s.size),s[0]≠0):al (ah s)=s:=by
 unfold al ah;rw [nf];intro hne;have h0:0<s.size:=by
  rcases Nat.eq_zero_or_pos s.size with h0|h0
  ·exfalso;apply hne;exact List.eq_nil_of_length_eq_zero (Array.length_toList.trans h0)
  exact h0
 have:=h h0;rw [List.head_eq_getElem];exact this
theorem wM (s:ByteArray) (k:Nat) (h:k<s.size):(s.extract k s.size).extract 1 (s.size-k)=s.extract (k+1) s.size:=by
 apply ByteArray.ext;simp only [ByteArray.data_extract,Array.extract_extract];have:s.data.size=s.size:=rfl;congr 1;omega
theorem kX (s:ByteArray) (k:Nat) (h:k<s.size):(s.extract k s.size)[0]'(by simp;omega)=s[k]:=by
 simp [ByteArray.getElem_eq_getElem_data]
theorem kY (s:ByteArray) (k:Nat) (h:k<s.size):ah (s.extract k s.size)=s[k].toNat*256^(s.size-(k+1))+ah (s.extract (k+1) s.size):=by
 have e:(s.extract k s.size).data.toList=s[k]::(s.extract (k+1) s.size).data.toList:=by
  simp only [ByteArray.data_extract,Array.toList_extract,List.extract_eq_take_drop];have h1:s.data.size=s.size:=rfl;rw [List.drop_eq_getElem_cons (by simpa [h1] using h)];rw [show s.size-k=(s.size-(k+1))+1 by omega,List.take_succ_cons];rfl
 unfold ah;rw [e,dD];congr 3;simp
theorem jN (s:ByteArray) (w:World) (hs:s.size<=maxLen):
  Calls prog 194 #[.string s,.int .u8 0] w fun e w'=>e= .returned (.string (al (ah s)))/\w=w':=by
 unfold maxLen at hs;go_enter func194,ntmps194
 go_wp2
 go_loop [0] (fun t=>∃k:Nat,k<=s.size/\t= .string (s.extract k s.size)/\Hid (ah (s.extract k s.size)=ah s)) (fun t=>xT t)
 case atStart=>exact ⟨0,Nat.zero_le _,by simp,by simp [Hid]⟩
 case round=>
  obtain ⟨k,hk,rfl,HE⟩:=hrel;by_cases hlt:k<s.size
  ·have e0:=hid (kX s k hlt);by_cases hz:s[k]=0
   ·have hz':(((s.extract k s.size)[0]'(by simp;omega)).toNat==0)=true:=by rw [e0.out,hz];rfl
    have HZ:=hid hz;clear hz;go_wp2
    go_round
    case rel=>
     refine ⟨k+1,by omega,by rw [wM s k hlt],?_⟩;have:=kY s k hlt;rw [HZ.out] at this;rw [←HE.out,this];simp [Hid]
    case measure=>simp [xT,ByteArray.size_extract];omega
   have hz':(((s.extract k s.size)[0]'(by simp;omega)).toNat==0)=false:=by
    rw [e0.out];simp only [beq_eq_false_iff_ne];intro h;apply hz;exact UInt8.toNat_inj.1 (by simpa using h)
   have hR:Hid (al (ah s)=s.extract k s.size):=by
    rw [←HE.out];exact eM fun h=>by rw [kX s k hlt];exact hz
   clear hz;go_wp2
   go_ret
   exact ⟨ji hR.out.symm,rfl⟩
  have hR:Hid (al (ah s)=s.extract k s.size):=by
   rw [←HE.out];exact eM fun h=>by simp at h;omega
  go_wp2
  go_ret
  exact ⟨ji hR.out.symm,rfl⟩
theorem ng {s:ByteArray} (h:s.size=0):ah s=0:=by
 have:s.data.toList=[]:=List.eq_nil_of_length_eq_zero (Array.length_toList.trans h);unfold ah;rw [this];rfl
theorem oL:al 0=ByteArray.empty:=by unfold al;rw [ct];rfl
theorem oM {s:ByteArray} (h:s.size=0):s=ByteArray.empty:=by
 apply ByteArray.ext;exact Array.eq_empty_of_size_eq_zero h
theorem nh (s:ByteArray) (w:World) (hs:s.size<=maxLen):
  Calls prog 153 #[.string s,.string ⟨#[0]⟩] w fun e w'=>e= .returned (.string (al (ah s)))/\w=w':=by
 have hc:=jN s w hs;have HC:=hid hc;clear hc;by_cases h0:s.size=0
 ·have h1:s.data.toList=[]:=List.eq_nil_of_length_eq_zero (Array.length_toList.trans h0);have h2:s.data.toList.isEmpty=true:=by rw [h1];rfl
  have hR:Hid (al (ah s)=s):=by rw [ng h0,oL,oM h0];rfl
  have h3:=oM h0;subst h3;clear h0 h1 h2;go_enter func153,ntmps153
  go_wp2
  go_ret
  exact ⟨ji hR.out.symm,rfl⟩
 have h2:(s.data.toList==[])=false:=by
  rw [beq_eq_false_iff_ne];intro h;apply h0;have:=congrArg List.length h;rw [Array.length_toList] at this;exact this
 have h3:s.data.toList.isEmpty=false:=by
  rw [List.isEmpty_eq_false_iff];intro h;apply h0;have:=congrArg List.length h;rw [Array.length_toList] at this;exact this
 have h4:s.toList.isEmpty=false:=by rw [ByteArray.toList_eq];exact h3
 clear h0;go_enter func153,ntmps153
 go_wp2_with fail
 have e:(((⟨#[0]⟩:ByteArray)[0]'(by decide)).toNat:Int)=0:=by rfl
 rw [e];refine Calls.mono HC.out ?_;rintro e w1 ⟨rfl,rfl⟩;go_wp2
 go_ret
 exact ⟨rfl,rfl⟩
theorem bH (s:ByteArray) (w:World) (hs:s.size<=maxLen):
  Calls prog 111 #[.string s] w fun e w'=>e= .returned (.string (al (ah s)))/\w=w':=by
 have hc:=nh s w hs;have HC:=hid hc;clear hc;go_enter func111,ntmps111
 go_wp2_with fail
 refine Calls.mono HC.out ?_;rintro e w1 ⟨rfl,rfl⟩;go_wp2
 go_ret
 exact ⟨rfl,rfl⟩
theorem ma {xs:List Nat} (k:Nat) (h:∀j (hj:j<xs.length),k<=j->xs[j]=0):ac (xs.take k)=ac xs:=by
 have e:xs=xs.take k++List.replicate (xs.length-k) 0:=by
  apply List.ext_getElem
  ·simp;omega
  intro i h1 h2;by_cases hi:i<k
  ·rw [List.getElem_append_left (by simp;omega),List.getElem_take]
  rw [List.getElem_append_right (by simp;omega),List.getElem_replicate,h i h1 (by omega)]
 conv=>rhs;rw [e]
 rw [cG,d9];simp
theorem ff {xs:List Nat} (hx:∀x∈xs,x<4294967296) (k:Nat) (hk:k<=xs.length) (h:∀j (hj:j<xs.length),k<=j->xs[j]=0) (hl:∀(h0:0<k),xs[k-1]'(by omega)≠0):
  ae (ac xs)=xs.take k:=by
 rw [←ma k h];apply oI
 ·intro x hx';exact hx x (List.mem_of_mem_take hx')
 intro hne;rw [List.getLast_eq_getElem,List.getElem_take];have hlen:(xs.take k).length=k:=by simp;omega
 have hk0:0<k:=by
  rcases Nat.eq_zero_or_pos k with h0|h0
  ·subst h0;simp at hne
  exact h0
 simp only [hlen];exact hl hk0
theorem aM {w:World} {S:Nat->Prop} {v:Value} {l:List Nat} (hv:ax 1 bi w S [v] l):
  ∃a cap,v= .slice a l.length cap/\l.length<=cap/\cap<=maxLen/\(a=none->cap=0)/\(l=[]∨∃b off,a=some ⟨b,off,none⟩/\rAt 1 bi w S b off l):=by
 obtain ⟨a,cap,hv,h1,h2,h3,h4⟩:=hv;simp only [List.cons.injEq,and_true] at hv;exact ⟨a,cap,hv,h1,h2,h3,h4⟩
theorem rAt.take {α:Type} {sz:Nat} {R:dW α} {w:World} {S:Nat->Prop} {b off:Nat} {l:List α} (h:rAt sz R w S b off l) (k:Nat):rAt sz R w S b off (l.take k):=by
 refine ⟨h.1,fun j hj=>?_⟩;have hj':j<l.length:=by simp at hj;omega
 obtain ⟨cs,h1,h2,h3⟩:=h.2 j hj';exact ⟨cs,h1,h2,by rw [List.getElem_take];exact h3⟩
theorem eN {w:World} {S:Nat->Prop} {v:Value} {l:List Nat} (hv:ax 1 bi w S [v] l):∀x∈l,x<4294967296:=by
 obtain ⟨a,cap,_,_,_,_,h4⟩:=hv;intro x hx;rcases h4 with rfl|⟨b,off,_,h4⟩
 ·simp at hx
 obtain ⟨j,hj,rfl⟩:=List.getElem_of_mem hx;exact (h4.u32 hj).2
theorem ga (S:Nat->Prop) (v:Value) (xs:List Nat) (w:World) (hv:ax 1 bi w S [v] xs):
  Calls prog 198 #[v] w fun e w'=>∃u,e= .returned u/\w=w'/\ax 1 bi w S [u] (ae (ac xs)):=by
 have hlt:=hid (eN hv);obtain ⟨a,cap,rfl,h1,h2,h3,h4⟩:=aM hv;have hn:=dX h1 h2;have hcap:cap<=9223372036854775807:=by unfold maxLen at h2;omega
 go_enter func198,ntmps198
 go_wp2
 go_loop [3] (fun i=>∃k:Nat,k<=xs.length/\i= .int .i64 k/\Hid (∀j (hj:j<xs.length),k<=j->xs[j]=0)) (fun i=>(intOf i).toNat)
 case atStart=>exact ⟨xs.length,Nat.le_refl _,rfl,fun j hj h=>by omega⟩
 case round=>
  obtain ⟨k,hk,rfl,HE⟩:=hrel;cases k with
  |zero=>
   have e:=ff hlt.out 0 (by omega) HE.out (fun h=>by omega);rw [List.take_zero] at e;have E:=hid e;clear e;go_wp2
   go_ret
   refine ⟨_,rfl,rfl,?_⟩;rw [E.out];exact ⟨a,cap,rfl,by simp,h2,h3,.inl rfl⟩
  |succ k=>
   rcases h4 with rfl|⟨b,off,rfl,h4⟩
   ·simp at hk
   have g0:=(h4.u32 (j:=k) (by omega)).1;have ei:((k+1:Nat):Int)-1=(k:Int):=by omega
   by_cases hz:xs[k]=0
   ·have hz':((xs[k]:Int)==0)=true:=by simp [hz]
    have HZ:=hid hz;clear hz;go_wp2
    go_round
    case rel=>
     refine ⟨k,by omega,rfl,fun j hj hkj=>?_⟩;by_cases hjk:j=k
     ·subst hjk;exact HZ.out
     exact HE.out j hj (by omega)
    case measure=>simp [intOf]
   have hz':((xs[k]:Int)==0)=false:=by simpa using hz
   have E:=hid (ff hlt.out (k+1) hk HE.out (fun _=>hz));clear hz;go_wp2
   go_ret
   refine ⟨_,rfl,rfl,?_⟩;rw [E.out];exact ⟨some ⟨b,off,none⟩,cap,by simp;omega,by simp;omega,h2,by simp,.inr ⟨b,off,rfl,h4.take _⟩⟩
end Go.Proofs.YtcgpghifhehlhaaGreatDoor
section
/- Digits in base 256 and 2^32, plain. -/
namespace Go.Proofs.YtcgpghifhehlhaaGreatDoor
theorem jO (q r:Nat):256^(4*q+r)=4294967296^q*256^r:=by
 rw [Nat.pow_add,Nat.pow_mul]
theorem ur (l:List UInt8) (k:Nat) (h:k<l.length):aK l/256^k%256=(l[l.length-1-k]'(by omega)).toNat:=by
 have e:l=l.take (l.length-1-k)++l[l.length-1-k]'(by omega)::l.drop (l.length-k):=by
  conv=>lhs;rw [←List.take_append_drop (l.length-1-k) l]
  rw [List.drop_eq_getElem_cons (by omega),show l.length-1-k+1=l.length-k by omega]
 have hd:(l.drop (l.length-k)).length=k:=by simp;omega
 have h1:=eQ (l.drop (l.length-k));rw [hd] at h1;have e2:aK l=(aK (l.take (l.length-1-k))*256+(l[l.length-1-k]'(by omega)).toNat)*256^k+aK (l.drop (l.length-k)):=by
  conv=>lhs;rw [e]
  rw [eZ,dD,List.length_cons,hd,Nat.pow_succ,Nat.add_mul,Nat.mul_assoc,Nat.mul_comm 256];omega
 have hb:=(l[l.length-1-k]'(by omega)).toNat_lt;rw [e2,Nat.mul_comm _ (256^k),Nat.mul_add_div (Nat.pow_pos (by decide)),Nat.div_eq_of_lt h1];omega
theorem ka (V k:Nat):V%256^(k+1)=V%256^k+256^k*(V/256^k%256):=by
 rw [Nat.pow_succ,Nat.mod_mul]
theorem yu (V q r:Nat) (hr:r<4):V%256^(4*q+r+1)/4294967296^q%4294967296=V/256^(4*q+r)%256*256^r+V%256^(4*q+r)/4294967296^q/\
  V%256^(4*q+r)/4294967296^q<256^r/\V%256^(4*q+r)/4294967296^q%4294967296=V%256^(4*q+r)/4294967296^q:=by
 have hb:V/256^(4*q+r)%256<256:=Nat.mod_lt _ (by decide);have hu:V%256^(4*q+r)/4294967296^q<256^r:=by
  apply Nat.div_lt_of_lt_mul;rw [←jO];exact Nat.mod_lt _ (Nat.pow_pos (by decide))
 have hr4:256^r*256<=4294967296:=by
  rw [←Nat.pow_succ];exact Nat.pow_le_pow_right (by decide) (by omega:r+1<=4)
 have hle:256^r<=4294967296:=Nat.le_trans (Nat.le_mul_of_pos_right _ (by decide)) hr4;refine ⟨?_,hu,Nat.mod_eq_of_lt (Nat.lt_of_lt_of_le hu hle)⟩;rw [ka,jO q r];rw [←jO q r];generalize hB:V/256^(4*q+r)%256=B at *
 generalize V%256^(4*q+r)=U at *
 rw [jO,Nat.mul_assoc,Nat.add_comm U,Nat.mul_add_div (jL q),Nat.mul_comm (256^r)];apply Nat.mod_eq_of_lt;have h1:(B+1)*256^r<=256*256^r:=Nat.mul_le_mul_right _ hb;rw [Nat.add_mul] at h1;omega
theorem yv (V q r j:Nat) (hj:j<q):V%256^(4*q+r+1)/4294967296^j%4294967296=V%256^(4*q+r)/4294967296^j%4294967296:=by
 rw [ka];generalize V/256^(4*q+r)%256=B;generalize V%256^(4*q+r)=U;have e:256^(4*q+r)=4294967296^j*(4294967296*(4294967296^(q-j-1)*256^r)):=by
  rw [jO,←Nat.mul_assoc 4294967296,←Nat.pow_succ',←Nat.mul_assoc,←Nat.pow_add,show j+(q-j-1+1)=q by omega]
 rw [e,Nat.mul_assoc,Nat.add_comm U,Nat.mul_add_div (jL j),Nat.mul_assoc,Nat.mul_add_mod]
theorem yw (V q r j:Nat) (hr:r<4) (hj:q<j):V%256^(4*q+r+1)/4294967296^j%4294967296=V%256^(4*q+r)/4294967296^j%4294967296:=by
 have h1:256^(4*q+r+1)<=4294967296^j:=by
  have:(4294967296:Nat)^j=256^(4*j):=by rw [Nat.pow_mul]
  rw [this];exact Nat.pow_le_pow_right (by decide) (by omega)
 have h2:256^(4*q+r)<=4294967296^j:=Nat.le_trans (Nat.pow_le_pow_right (by decide) (by omega)) h1;rw [Nat.div_eq_of_lt (Nat.lt_of_lt_of_le (Nat.mod_lt _ (Nat.pow_pos (by decide))) h1),Nat.div_eq_of_lt (Nat.lt_of_lt_of_le (Nat.mod_lt _ (Nat.pow_pos (by decide))) h2)]
theorem ni (x b t:Nat) (hx:x<2^t):x|||b*2^t=b*2^t+x:=by
 rw [Nat.or_comm,←Nat.shiftLeft_eq,←Nat.shiftLeft_add_eq_or_of_lt hx]
end Go.Proofs.YtcgpghifhehlhaaGreatDoor
end
namespace Go.Proofs.YtcgpghifhehlhaaGreatDoor
open Go.RowKit Go.Proofs.Tryz
theorem Tryz.infoU32:(prog.info? 168).map (fun i=>(i.zero,i.size,i.bytes))=some (some (.int .u32 0),1,4):=by kernel_rfl
theorem eR (x b t c:Nat) (hc:c=2^t) (ht:t<=24) (hx:x<c) (hb:b*c<4294967296) (y:Int) (hy:y=((b*c:Nat):Int)):bits .or .u32 (x:Int) y=((b*c+x:Nat):Int):=by
 have h24:c<=2^24:=by rw [hc];exact Nat.pow_le_pow_right (by decide) ht
 rw [hy,u32_or_nat _ _ (by omega) hb,hc,ni x b t (by omega)]
theorem dl (V k q r x b c:Nat) (hc:c=256^r) (hr:r<4) (hkq:k=4*q+r) (hx:x=V%256^k/4294967296^q%4294967296) (hb:b=V/256^k%256):
  x<c/\b*c<4294967296/\b<256/\b*c+x=V%256^(k+1)/4294967296^q%4294967296:=by
 subst hkq hc;obtain ⟨h1,h2,h3⟩:=yu V q r hr;rw [h3] at hx;rw [←hb] at h1;have hlt:b<256:=by rw [hb];exact Nat.mod_lt _ (by decide)
 refine ⟨by rw [hx];exact h2,?_,hlt,by rw [h1,hx]⟩;have hr4:256^r*256<=4294967296:=by
  rw [←Nat.pow_succ];exact Nat.pow_le_pow_right (by decide) (by omega:r+1<=4)
 have h4:(b+1)*256^r<=256*256^r:=Nat.mul_le_mul_right _ hlt;rw [Nat.add_mul] at h4;have:0<256^r:=Nat.pow_pos (by decide);omega
theorem cT (V k q j:Nat) (hq:q=k/4) (hj:j≠q):V%256^(k+1)/4294967296^j%4294967296=V%256^k/4294967296^j%4294967296:=by
 obtain ⟨r,hr,hk⟩:∃r,r<4/\k=4*q+r:=⟨k%4,by omega,by omega⟩;subst hk;rcases Nat.lt_or_gt_of_ne hj with h|h
 ·exact yv V q r j h
 exact yw V q r j hr h
theorem cH (s:ByteArray) (w:World) (hs:s.size<=1000000000000):
  Calls prog 154 #[.string s] w fun e w'=>∃u,e= .returned u/\ax 1 bi w' (LT w'.heap.size) [u] (ae (ah s))/\Below w.heap.size w w':=by
 obtain ⟨m,hm⟩:∃m:Nat,m=(s.size+3)/4:=⟨_,rfl⟩;have hm1:((s.size:Int)+4-1)/4=(m:Int):=by omega
 have hmk:=fun (w:World)=>cy (P:=prog) underlying218 Tryz.infoU32 rfl w m (by omega) (by omega)
 have hn:s.size<=9223372036854775807:=by omega
 have HM:=hid hm;clear hm;go_enter func154,ntmps154
 go_wp2
 clear hmk;go_loopw [4,13] (fun _ i wr=>∃(k:Nat) (f:Nat->Value),k<=s.size/\i= .int .i64 k/\Below w.heap.size w wr/\Own wr w.heap.size 168 m f/\Hid (∀j,j<m->f j= .int .u32 ((ah s%256^k/4294967296^j%4294967296:Nat):Int))) (fun _ i _=>s.size-(intOf i).toNat)
 case atStart=>exact ⟨0,_,Nat.zero_le _,rfl,(Below.refl _ _).alloc (Nat.le_refl _) _,Own.new _ _ _ _,fun j _=>by simp [Nat.mod_one]⟩
 case round=>
  obtain ⟨k,f,hk,rfl,hbel,hown,HF⟩:=hrel;by_cases hlt:k<s.size
  ·obtain ⟨q,hq⟩:∃q:Nat,q=k/4:=⟨_,rfl⟩;have hq1:((k:Int)/4)=(q:Int):=by omega
   have hqm:q<m:=by have:=HM.out;omega
   have c1:=hown.cell hqm;rw [HF.out q hqm] at c1;obtain ⟨x,hx⟩:∃x:Nat,x=ah s%256^k/4294967296^q%4294967296:=⟨_,rfl⟩;rw [←hx] at c1;have c2:=hown.frozen q;have HQ:=hid hq;have HX:=hid hx;clear hq hx;have d1:(s.size:Int)-1-k=((s.size-1-k:Nat):Int):=by omega
   have d2:s.size-1-k<s.size:=by omega
   have hb:ah s/256^k%256=(s[s.size-1-k]'d2).toNat:=ur s.data.toList k hlt;have Hb:=hid hb;have hr:k%4=0∨k%4=1∨k%4=2∨k%4=3:=by omega
   rcases hr with hr|hr|hr|hr
   ·have hr1:((k:Int)%4)=0:=by omega
    have HP:=hid (dl (ah s) k q 0 x _ 1 (by decide) (by omega) (by have:=HQ.out;omega) HX.out hb.symm);clear hb;go_wp2
    go_region
    go_wp2
    go_roundw
    case rel=>
     refine ⟨k+1,upd f q _,by omega,by go_num,(hbel.setCell (Nat.le_refl _) _).drew,(hown.set _ _).drew,fun j hj=>?_⟩;unfold upd;by_cases hjq:j=q
     ·rw [if_pos hjq,hjq,←HP.out.2.2.2,eR x s[s.size-1-k].toNat 0 1 (by decide) (by omega) HP.out.1 HP.out.2.1 _ (by have:=HP.out.2.2.1;omega)]
     rw [if_neg hjq,cT _ k q j HQ.out hjq];exact HF.out j hj
    case measure=>simp [intOf];omega
   ·have hr1:((k:Int)%4)=1:=by omega
    have HP:=hid (dl (ah s) k q 1 x _ 256 (by decide) (by omega) (by have:=HQ.out;omega) HX.out hb.symm);clear hb;go_wp2
    go_region
    go_wp2
    go_roundw
    case rel=>
     refine ⟨k+1,upd f q _,by omega,by go_num,(hbel.setCell (Nat.le_refl _) _).drew,(hown.set _ _).drew,fun j hj=>?_⟩;unfold upd;by_cases hjq:j=q
     ·rw [if_pos hjq,hjq,←HP.out.2.2.2,eR x s[s.size-1-k].toNat 8 256 (by decide) (by omega) HP.out.1 HP.out.2.1 _ (by have:=HP.out.2.2.1;omega)]
     rw [if_neg hjq,cT _ k q j HQ.out hjq];exact HF.out j hj
    case measure=>simp [intOf];omega
   ·have hr1:((k:Int)%4)=2:=by omega
    have HP:=hid (dl (ah s) k q 2 x _ 65536 (by decide) (by omega) (by have:=HQ.out;omega) HX.out hb.symm);clear hb;go_wp2
    go_region
    go_wp2
    go_roundw
    case rel=>
     refine ⟨k+1,upd f q _,by omega,by go_num,(hbel.setCell (Nat.le_refl _) _).drew,(hown.set _ _).drew,fun j hj=>?_⟩;unfold upd;by_cases hjq:j=q
     ·rw [if_pos hjq,hjq,←HP.out.2.2.2,eR x s[s.size-1-k].toNat 16 65536 (by decide) (by omega) HP.out.1 HP.out.2.1 _ (by have:=HP.out.2.2.1;omega)]
     rw [if_neg hjq,cT _ k q j HQ.out hjq];exact HF.out j hj
    case measure=>simp [intOf];omega
   have hr1:((k:Int)%4)=3:=by omega
   have HP:=hid (dl (ah s) k q 3 x _ 16777216 (by decide) (by omega) (by have:=HQ.out;omega) HX.out hb.symm);clear hb;go_wp2
   go_region
   go_wp2
   go_roundw
   case rel=>
    refine ⟨k+1,upd f q _,by omega,by go_num,(hbel.setCell (Nat.le_refl _) _).drew,(hown.set _ _).drew,fun j hj=>?_⟩;unfold upd;by_cases hjq:j=q
    ·rw [if_pos hjq,hjq,←HP.out.2.2.2,eR x s[s.size-1-k].toNat 24 16777216 (by decide) (by omega) HP.out.1 HP.out.2.1 _ (by have:=HP.out.2.2.1;omega)]
    rw [if_neg hjq,cT _ k q j HQ.out hjq];exact HF.out j hj
   case measure=>simp [intOf];omega
  have hR:ax 1 bi wr (LT wr.heap.size) [.slice (some ⟨w.heap.size,0,none⟩) m m] (cq m (ah s)):=by
   refine hown.reads (cj _ _) (by unfold maxLen;have:=HM.out;omega) fun j hj=>?_
   rw [cj] at hj;have hk':k=s.size:=by omega
   have e:ah s%256^k=ah s:=Nat.mod_eq_of_lt (by rw [hk'];exact cQ s);rw [HF.out j hj,e];have g:=eb m (ah s) j hj;rw [List.getElem?_eq_getElem (by rw [cj];exact hj)] at g;rw [Option.some.inj g];exact ⟨rfl,Nat.mod_lt _ (by decide)⟩
  have hV:ac (cq m (ah s))=ah s:=by
   rw [gA];apply Nat.mod_eq_of_lt;have h1:=cQ s;have h2:256^s.size<=4294967296^m:=by
    have:(4294967296:Nat)^m=256^(4*m):=by rw [Nat.pow_mul]
    rw [this];exact Nat.pow_le_pow_right (by decide) (by have:=HM.out;omega)
   omega
  have HT:=hid (ga _ _ _ _ hR);rw [hV] at HT;clear hR hV;go_wp2_with fail
  refine Calls.mono HT.out ?_;rintro e w2 ⟨u,rfl,rfl,hu⟩;go_wp2
  go_ret
  exact ⟨_,rfl,hu,hbel⟩
theorem Tryz.infoU8:(prog.info? 5).map (fun i=>(i.zero,i.size,i.bytes))=some (some (.int .u8 0),1,1):=by kernel_rfl
theorem i6 (ns:List Int):∀s:ByteArray,(ns.foldl (fun r n=>r.push (UInt8.ofNat n.toNat)) s).data.toList=s.data.toList++ns.map fun n=>UInt8.ofNat n.toNat:=by
 induction ns with
 |nil=>intro s;simp
 |cons n ns ih=>intro s;rw [List.foldl_cons,ih];simp [ByteArray.push]
theorem qv {P:Program} {src dst e:TypeId} (hs:P.underlying src=some (.slice e)) (he:P.underlying e=some (.int .u8)) (hd:P.underlying dst=some .string)
  {w:World} {g E n:Nat} {f:Nat->Value} (h:Own w g E n f) (B:Nat->Nat) (hf:∀j,j<n->f j= .int .u8 (B j)) (cap:Nat):
  ∃s:ByteArray,(convert src dst (.slice (some ⟨g,0,none⟩) n cap)).run P w= .ok (.string s) w/\s.data.toList=(List.range n).map fun j=>UInt8.ofNat (B j):=by
 have h1:(loadCells ⟨g,0,none⟩ n).run P w= .ok (((List.range n).map fun j=>(B j:Int)).map (Value.int .u8)).toArray w:=by
  have:=run_loadCells (P:=P) (w:=w) ⟨g,0,none⟩ n (fun j=> .int .u8 (B j)) (fun j hj=>by
   have hadd:(⟨g,0,none⟩:Addr).add j=⟨g,j,none⟩:=by unfold Addr.add;split<;>simp_all
   rw [hadd,h.cell hj,hf j hj])
  rw [this];congr 1;apply Array.ext';simp [List.map_map]
 refine ⟨_,by rw [run_convert_bytes_string w src dst e _ n cap hs he hd,run_bytesToString w ⟨g,0,none⟩ n cap _ h1],?_⟩;rw [i6];simp [List.map_map]
theorem kZ (V:Nat):∀n:Nat,aK ((List.range n).map fun j=>UInt8.ofNat (V/256^(n-1-j)%256))=V%256^n:=by
 intro n;induction n generalizing V with
 |zero=>simp [aK,Nat.mod_one]
 |succ n ih=>
  rw [List.range_succ,List.map_append,List.map_singleton,fT];have e:(List.range n).map (fun j=>UInt8.ofNat (V/256^(n+1-1-j)%256))=(List.range n).map fun j=>UInt8.ofNat (V/256/256^(n-1-j)%256):=by
   apply List.map_congr_left;intro j hj;have hj':j<n:=by simpa using hj
   rw [Nat.div_div_eq_div_mul,←Nat.pow_succ',show (n-1-j).succ=n+1-1-j by omega]
  rw [e,ih];have h1:n+1-1-n=0:=by omega
  have h2:(UInt8.ofNat (V/256^(n+1-1-n)%256)).toNat=V%256:=by
   rw [h1];simp
  rw [h2,Nat.pow_succ',Nat.mod_mul];omega
theorem iw {xs:List Nat} (h:∀x∈xs,x<4294967296) (k q r c:Nat) (hc:c=256^r) (hr:r<4) (hkq:k=4*q+r) (hq:q<xs.length):xs[q]/c%256=ac xs/256^k%256:=by
 subst hkq hc;rw [←js h hq,jO,←Nat.div_div_eq_div_mul];generalize ac xs/4294967296^q=U;have e:(4294967296:Nat)=256^r*256^(4-r):=by rw [←Nat.pow_add,show r+(4-r)=4 by omega]
 rw [e,Nat.mod_mul_right_div_self,Nat.mod_mod_of_dvd];exact ⟨256^(4-r-1),by rw [←Nat.pow_succ',show (4-r-1).succ=4-r by omega]⟩
theorem eU (S:Nat->Prop) (v:Value) (xs:List Nat) (w:World) (hS:∀b,S b->b<w.heap.size) (hl:xs.length<=1000000000000) (hv:ax 1 bi w S [v] xs):
  Calls prog 156 #[v] w fun e w'=>e= .returned (.string (al (ac xs)))/\Below w.heap.size w w':=by
 have hxs:=hid (eN hv);obtain ⟨a,cap,rfl,h1,h2,h3,h4⟩:=aM hv;have hn:=dX h1 h2;obtain ⟨n,hn4⟩:∃n:Nat,n=xs.length*4:=⟨_,rfl⟩;have hm1:(xs.length:Int)*4=(n:Int):=by omega
 have hmk:=fun (w:World)=>cy (P:=prog) underlying71 Tryz.infoU8 rfl w n (by omega) (by omega)
 have hnb:n<=9223372036854775807:=by omega
 have HN:=hid hn4;clear hn4;go_enter func156,ntmps156
 go_wp2
 clear hmk;go_loopw [4,11] (fun _ i wr=>∃(k:Nat) (f:Nat->Value),k<=n/\i= .int .i64 k/\Below w.heap.size w wr/\Own wr w.heap.size 5 n f/\Hid (∀j,j<n->n-k<=j->f j= .int .u8 ((ac xs/256^(n-1-j)%256:Nat):Int))/\Hid (∀j,j<n->∃z,f j= .int .u8 z)) (fun _ i _=>n-(intOf i).toNat)
 case atStart=>exact ⟨0,_,Nat.zero_le _,rfl,(Below.refl _ _).alloc (Nat.le_refl _) _,Own.new _ _ _ _,fun j _ _=>by omega,fun j _=>⟨_,rfl⟩⟩
 case round=>
  obtain ⟨k,f,hk,rfl,hbel,hown,HF,HZ⟩:=hrel;by_cases hlt:k<n
  ·obtain ⟨q,hq⟩:∃q:Nat,q=k/4:=⟨_,rfl⟩;have hq1:((k:Int)/4)=(q:Int):=by omega
   have hqm:q<xs.length:=by have:=HN.out;omega
   rcases h4 with rfl|⟨b,off,rfl,h4⟩
   ·simp at hqm
   obtain ⟨g0,g1⟩:=h4.u32 hqm;have hbS:=hS b h4.1;rw [←hbel.cell (p:=⟨b,off+q,none⟩) hbS] at g0;have d1:(n:Int)-1-k=((n-1-k:Nat):Int):=by omega
   have d2:n-1-k<n:=by omega
   obtain ⟨z,hz⟩:=HZ.out (n-1-k) d2;have c1:=hown.cell d2;rw [hz] at c1;have c2:=hown.frozen (n-1-k);have HQ:=hid hq;clear hq hz;have hr:k%4=0∨k%4=1∨k%4=2∨k%4=3:=by omega
   rcases hr with hr|hr|hr|hr
   ·have hr1:((k:Int)%4)=0:=by omega
    have HP:=hid (iw hxs.out k q 0 1 (by decide) (by omega) (by have:=HQ.out;omega) hqm);go_wp2
    go_roundw
    case rel=>
     refine ⟨k+1,upd f (n-1-k) _,by omega,by go_num,hbel.setCell (Nat.le_refl _) _,hown.set _ _,fun j hj hjk=>?_,fun j hj=>?_⟩
     ·unfold upd;by_cases hjq:j=n-1-k
      ·rw [if_pos hjq,hjq,show n-1-(n-1-k)=k by omega,←HP.out];first|rfl|(congr 1;omega)
      rw [if_neg hjq];exact HF.out j hj (by omega)
     unfold upd;split
     ·exact ⟨_,rfl⟩
     exact HZ.out j hj
    case measure=>simp [intOf];omega
   ·have hr1:((k:Int)%4)=1:=by omega
    have HP:=hid (iw hxs.out k q 1 256 (by decide) (by omega) (by have:=HQ.out;omega) hqm);go_wp2
    go_roundw
    case rel=>
     refine ⟨k+1,upd f (n-1-k) _,by omega,by go_num,hbel.setCell (Nat.le_refl _) _,hown.set _ _,fun j hj hjk=>?_,fun j hj=>?_⟩
     ·unfold upd;by_cases hjq:j=n-1-k
      ·rw [if_pos hjq,hjq,show n-1-(n-1-k)=k by omega,←HP.out];first|rfl|(congr 1;omega)
      rw [if_neg hjq];exact HF.out j hj (by omega)
     unfold upd;split
     ·exact ⟨_,rfl⟩
     exact HZ.out j hj
    case measure=>simp [intOf];omega
   ·have hr1:((k:Int)%4)=2:=by omega
    have HP:=hid (iw hxs.out k q 2 65536 (by decide) (by omega) (by have:=HQ.out;omega) hqm);go_wp2
    go_roundw
    case rel=>
     refine ⟨k+1,upd f (n-1-k) _,by omega,by go_num,hbel.setCell (Nat.le_refl _) _,hown.set _ _,fun j hj hjk=>?_,fun j hj=>?_⟩
     ·unfold upd;by_cases hjq:j=n-1-k
      ·rw [if_pos hjq,hjq,show n-1-(n-1-k)=k by omega,←HP.out];first|rfl|(congr 1;omega)
      rw [if_neg hjq];exact HF.out j hj (by omega)
     unfold upd;split
     ·exact ⟨_,rfl⟩
     exact HZ.out j hj
    case measure=>simp [intOf];omega
   have hr1:((k:Int)%4)=3:=by omega
   have HP:=hid (iw hxs.out k q 3 16777216 (by decide) (by omega) (by have:=HQ.out;omega) hqm);go_wp2
   go_roundw
   case rel=>
    refine ⟨k+1,upd f (n-1-k) _,by omega,by go_num,hbel.setCell (Nat.le_refl _) _,hown.set _ _,fun j hj hjk=>?_,fun j hj=>?_⟩
    ·unfold upd;by_cases hjq:j=n-1-k
     ·rw [if_pos hjq,hjq,show n-1-(n-1-k)=k by omega,←HP.out];first|rfl|(congr 1;omega)
     rw [if_neg hjq];exact HF.out j hj (by omega)
    unfold upd;split
    ·exact ⟨_,rfl⟩
    exact HZ.out j hj
   case measure=>simp [intOf];omega
  obtain ⟨s,hs1,hs2⟩:=qv (P:=prog) underlying71 underlying5 underlying9 hown (fun j=>ac xs/256^(n-1-j)%256) (fun j hj=>HF.out j hj (by omega)) n;have hsz:s.size<=maxLen:=by
   have:=congrArg List.length hs2;rw [Array.length_toList] at this;simp at this;unfold maxLen;have:s.size=n:=this;omega
  have hval:ah s=ac xs:=by
   unfold ah;rw [hs2,kZ];apply Nat.mod_eq_of_lt;have h5:=aP hxs.out;rw [HN.out,Nat.mul_comm,Nat.pow_mul];exact h5
  have HC:=hid (bH s wr hsz);rw [hval] at HC;clear hs2 hval;go_wp2_with fail
  refine Calls.mono HC.out ?_;rintro e w1 ⟨rfl,rfl⟩;go_wp2
  go_ret
  exact ⟨rfl,hbel⟩
theorem rGrow.append {α:Type} {E:TypeId} {R:dW α} (hR:Stays R) {base:Nat} {w w':World} {v v':Value} {l ys:List α} {news:List Value} (h3:∀xs,w.ownsRow base E 1 v l.length xs->w'.ownsRow base E 1 v' (l.length+ys.length) (xs++news))
  (h:rGrow E 1 R base w v l) (hn:news.length=ys.length) (hg:w.grownBy w' v.ownBlock) (hv:v'.ownBlock=v.ownBlock∨v'.ownBlock=some w.heap.size) (hx:∀j (hj:j<ys.length),R w (gL w v) [news[j]'(by omega)] ys[j]):rGrow E 1 R base w' v' (l++ys):=by
 obtain ⟨xs,h1,h2⟩:=h;have h4:=h3 xs h1;have hst:∀cs (a:α),R w (gL w v) cs a->R w' (gL w' v') cs a:=fun cs a hr=>hR _ _ _ _ _ _ hr (fun b hb=>hg.block b hb.1 hb.2) fun b hb=>by
  refine ⟨Nat.lt_of_lt_of_le hb.1 hg.size,?_⟩;rcases hv with hv|hv
  ·rw [hv];exact hb.2
  rw [hv];intro e;have:=Option.some.inj e;have:=hb.1;omega
 refine ⟨xs++news,by simpa using h4,fun j hj=>?_⟩;have hlen:=h1.1;rw [Nat.mul_one] at hlen ⊢;by_cases hj':j<l.length
 ·rw [List.getElem_append_left hj',List.drop_append_of_le_length (by omega),List.take_append_of_le_length (by simp;omega)];have:=h2 j hj';rw [Nat.mul_one] at this;exact hst _ _ this
 have hj2:j-l.length<ys.length:=by simp at hj;omega
 rw [List.getElem_append_right (by omega)];have e:((xs++news).drop j).take 1=[news[j-l.length]'(by omega)]:=by
  rw [List.drop_append,hlen,List.drop_of_length_le (by omega),List.nil_append];have hq:j-l.length<news.length:=by omega
  rw [List.drop_eq_getElem_cons hq];rfl
 rw [e];exact hst _ _ (hx _ hj2)
theorem nj {α:Type} {P:Program} (w:World) {ops:Array Oper} {rest:List Oper} {o:Oper} {a:Act} {Q:Exit->Act->World->Prop} (hgd:o.guard=none) (s x:Operand) (t:TypeId)
  (ho:o.op= .call {callee:= .builtin .append,args:= #[s,x],argTypes:= #[t,t]})
  {R:dW α} (hR:Stays R) (base E bytes:Nat) (z:Value) (ht:P.underlying t=some (.slice E)) (hi:(P.info? E).map (fun i=>(i.zero,i.size,i.bytes))=some (some z,1,bytes)) (hzs:z.cells.size=1)
  (v:Value) (l ys:List α) (hs:a.eval s=v) (hv:rGrow E 1 R base w v l) (hbase:base<=w.heap.size) (hbytes:(l.length+ys.length)*bytes<=140737488355328) (h63:l.length+ys.length<=9223372036854775807) (hm:0<ys.length)
  (b c:Nat) (news:List Value) (hx:a.eval x= .slice (some ⟨b,0,none⟩) ys.length c) (hl:news.length=ys.length) (hb:∃fz,w.heap[b]? =some (.cells news.toArray E fz)) (h1:news.all Value.oneCell'=true)
  (hy:∀j (hj:j<ys.length),R w (gL w v) [news[j]'(by omega)] ys[j])
  (h:∀v' w',rGrow E 1 R base w' v' (l++ys)->w.grownBy w' v.ownBlock->Below base w w'->wpList P ops Q rest (a.put o.dst v') w'):wpList P ops Q (o::rest) a w:=by
 refine wpList_plain hgd fun K hK=>?_
 obtain ⟨i,hi1,hi2,hi3,hi4⟩:=info_parts hi;obtain ⟨xs,hxs,hel⟩:=hv;obtain ⟨fz,hb⟩:=hb;have hnews:∀j u,news[j]? =some u->w.cell? ((⟨b,0,none⟩:Addr).add j)=some u:=by
  intro j u hu;have hadd:(⟨b,0,none⟩:Addr).add j=⟨b,j,none⟩:=by unfold Addr.add;split<;>simp_all
  rw [hadd];simp [World.cell?,hb,hu]
 obtain ⟨v',w',hr,h2,h3,h4⟩:=jj (P:=P) w base t o.type E i z 1 bytes ht hi1 hi2 hi3 hi4 hzs (by decide) v l.length xs hxs ⟨b,0,none⟩ ys.length c news (by omega) hnews (fun u hu=>List.all_eq_true.1 h1 u hu) (by unfold maxLen;omega) (by omega) hbase (by omega);have hrow:∀k,v.ownBlock=some k->base<=k:=fun k hk=>(hxs.lt k hk).1
 have hbel:Below base w w':=(Below.refl base w).grown h3 hbase hrow;refine ?_;unfold Oper.wp execOp;simp only [ho,resolve,invoke,builtin,Sem.run_bind,Sem.run_pure,Result.andThen_ok,List.map_toArray,List.map_cons,List.map_nil,hs,hx,hr];refine hK _ _ (h v' w' ?_ h3 hbel);refine rGrow.append hR (news:=news) (fun xs' hxs'=>?_) ⟨xs,hxs,hel⟩ hl h3 h4 hy;have:xs'=xs:=by
  rcases hxs'.2 with ⟨e1,e2⟩|⟨g,cap,cur,e1,_,hg,_,_,_,ht'⟩
  ·have:=hxs.1;have:=hxs'.1;rw [e2] at *
   rw [List.eq_nil_of_length_eq_zero (by omega:xs.length=0),List.eq_nil_of_length_eq_zero (by omega:xs'.length=0)]
  rcases hxs.2 with ⟨f1,_⟩|⟨g',cap',cur',f1,_,hg',_,_,_,ht''⟩
  ·rw [f1] at e1;cases e1
  rw [f1] at e1;injection e1 with e1 _ _
  injection e1 with e1
  injection e1 with e1
  subst e1;rw [hg] at hg';injection hg' with hg'
  injection hg' with hg' _ _
  rw [←ht',←ht'',hg']
 rw [this];exact h2
theorem ut {P:Program} {t e:TypeId} {z:Value} {sz bytes:Nat} (ht:P.underlying t=some (.slice e)) (hi:(P.info? e).map (fun i=>(i.zero,i.size,i.bytes))=some (some z,sz,bytes))
  (w:World) (n:Nat) (hb:bytes*n<=281474976710656) (hn:n<=9223372036854775807):
  (Instr.makeSlice t (.int .i64 0) (.int .i64 n)).run P w= .ok (.slice (some ⟨w.heap.size,0,none⟩) 0 n) (w.alloc (.cells (madeCells z.cells (n*sz)) e)):=by
 obtain ⟨i,hi1,hi2,hi3,hi4⟩:=info_parts hi;have h:=run_make (P:=P) w t e i z ht hi1 hi2 .i64 .i64 0 n (by omega) (by omega) (by rw [hi4];omega) (by omega);rw [h,hi3];simp
theorem rGrow.made {α:Type} (E:TypeId) (R:dW α) (w:World) (z:Array Value) (n:Nat) (hn:n<=maxLen) {base:Nat} (hb:base<=w.heap.size):
  rGrow E 1 R base (w.alloc (.cells (madeCells z (n*1)) E)) (.slice (some ⟨w.heap.size,0,none⟩) 0 n) ([]:List α):=by
 refine ⟨[],⟨by simp,.inr ⟨w.heap.size,n,_,rfl,hb,heap_alloc_new _ _,Nat.zero_le _,hn,by simp [madeCells],by simp⟩⟩,fun j hj=>by simp at hj⟩
theorem nk {P:Program} {src dst e:TypeId} (hs:P.underlying src=some (.slice e)) (he:P.underlying e=some (.int .u8)) (hd:P.underlying dst=some .string)
  {w:World} {S:Nat->Prop} {v:Value} {l:List Nat} (h:ax 1 rU8 w S [v] l) (hl:0<l.length):
  ∃s:ByteArray,(convert src dst v).run P w= .ok (.string s) w/\s.data.toList=l.map UInt8.ofNat:=by
 obtain ⟨a,cap,hv,h1,h2,h3,h4⟩:=h;simp only [List.cons.injEq,and_true] at hv;subst hv;rcases h4 with h4|⟨b,off,rfl,h4⟩
 ·rw [h4] at hl;simp at hl
 have h5:(loadCells ⟨b,off,none⟩ l.length).run P w= .ok (((l.map fun x:Nat=>(x:Int)).map (Value.int .u8))).toArray w:=by
  have:=run_loadCells (P:=P) (w:=w) ⟨b,off,none⟩ l.length (fun j=> .int .u8 (l.getD j 0:Nat)) (fun j hj=>by
   have hadd:(⟨b,off,none⟩:Addr).add j=⟨b,off+j,none⟩:=by unfold Addr.add;split<;>simp_all
   rw [hadd,(h4.u8 hj).1];simp [List.getD,hj])
  rw [this];congr 1;apply Array.ext';apply List.ext_getElem
  ·simp
  intro j h1 h2;have:j<l.length:=by simpa using h2
  simp [List.getD,this]
 refine ⟨_,by rw [run_convert_bytes_string w src dst e _ l.length cap hs he hd,run_bytesToString w ⟨b,off,none⟩ l.length cap _ h5],?_⟩;rw [i6];simp [List.map_map]
def gb (n:Int):Int:=if n<0 then -1 else if 0<n then 1 else 0
def bj (x y:Nat):Int:=if x<y then -1 else if y<x then 1 else 0
theorem AB (n:Int) (w:World):Calls prog 162 #[.int .i64 n] w fun e w'=>e= .returned (.int .i64 (gb n))/\w=w':=by
 by_cases h1:n<0
 ·have hs:Hid (gb n= -1):=by unfold gb;rw [if_pos h1];rfl
  go_enter func162,ntmps162
  go_wp2
  go_ret
  exact ⟨bI hs.out.symm,rfl⟩
 by_cases h2:0<n
 ·have hs:Hid (gb n=1):=by unfold gb;rw [if_neg h1,if_pos h2];rfl
  go_enter func162,ntmps162
  go_wp2
  go_ret
  exact ⟨bI hs.out.symm,rfl⟩
 have hs:Hid (gb n=0):=by unfold gb;rw [if_neg h1,if_neg h2];rfl
 go_enter func162,ntmps162
 go_wp2
 go_ret
 exact ⟨bI hs.out.symm,rfl⟩
theorem dJ {xs ys:List Nat} (hx:∀x∈xs,x<4294967296) (hl:xs.length=ys.length) (i:Nat) (h:i<xs.length) (h':i<ys.length) (hd:xs.drop (i+1)=ys.drop (i+1)) (hlt:xs[i]<ys[i]):ac xs<ac ys:=by
 have e1:ac xs=ac (xs.take i)+4294967296^i*(xs[i]+4294967296*ac (xs.drop (i+1))):=by
  conv=>lhs;rw [←List.take_append_drop i xs,List.drop_eq_getElem_cons h]
  rw [cG,List.length_take,Nat.min_eq_left (by omega)];rfl
 have e2:ac ys=ac (ys.take i)+4294967296^i*(ys[i]+4294967296*ac (ys.drop (i+1))):=by
  conv=>lhs;rw [←List.take_append_drop i ys,List.drop_eq_getElem_cons h']
  rw [cG,List.length_take,Nat.min_eq_left (by omega)];rfl
 have h1:=aP (xs:=xs.take i) (fun x hx'=>hx x (List.mem_of_mem_take hx'));rw [List.length_take,Nat.min_eq_left (by omega)] at h1;rw [e1,e2,hd];generalize ac (ys.drop (i+1))=D;have h2:4294967296^i*(xs[i]+4294967296*D)+4294967296^i<=4294967296^i*(ys[i]+4294967296*D):=by
  have:=Nat.mul_le_mul_left (4294967296^i) (show xs[i]+4294967296*D+1<=ys[i]+4294967296*D by omega);rwa [Nat.mul_add,Nat.mul_one] at this
 omega
theorem ef {x y:Nat} (h:(ae x).length<(ae y).length):x<y:=by
 rcases Nat.lt_or_ge x y with h'|h'
 ·exact h'
 exfalso;have h1:=aP (bd x);rw [am] at h1;have:=bS (Nat.lt_of_le_of_lt h' h1);omega
theorem eF {x y:Nat} (h:x<y):bj x y= -1:=by unfold bj;rw [if_pos h]
theorem iy {x y:Nat} (h:y<x):bj x y=1:=by unfold bj;rw [if_neg (by omega),if_pos h]
theorem mz (x:Nat):bj x x=0:=by unfold bj;simp
theorem eV (S:Nat->Prop) (u v:Value) (x y:Nat) (w:World) (hS:∀b,S b->b<w.heap.size) (hu:ax 1 bi w S [u] (ae x)) (hv:ax 1 bi w S [v] (ae y)):
  Calls prog 192 #[u,v] w fun e w'=>e= .returned (.int .i64 (bj x y))/\Below w.heap.size w w':=by
 obtain ⟨a,cap,rfl,h1,h2,h3,h4⟩:=aM hu;obtain ⟨a',cap',rfl,h1',h2',h3',h4'⟩:=aM hv;have hn:=dX h1 h2;have hn':=dX h1' h2';rcases Nat.lt_trichotomy (ae x).length (ae y).length with hl|hl|hl
 ·have hR:=hid (eF (ef hl));have hl':((ae x).length !=(ae y).length)=true:=by simp;omega
  have hl2:¬(((ae x).length:Int)=((ae y).length:Int)):=by omega
  have HS:=hid (AB (((ae x).length:Int)-(ae y).length));have hsg:gb (((ae x).length:Int)-(ae y).length)= -1:=by unfold gb;rw [if_pos (by omega)]
  rw [hsg] at HS;clear hsg;go_enter func192,ntmps192
  go_wp2_with fail
  refine Calls.mono (HS.out _) ?_;rintro e w1 ⟨rfl,rfl⟩;go_wp2
  go_ret
  exact ⟨bI hR.out.symm,Below.refl _ _⟩
 ·have HL:=hid hl;rw [←hl];clear hl;go_enter func192,ntmps192
  go_wp2
  go_loopw [5] (fun i wr=>∃k:Nat,k<=(ae x).length/\i= .int .i64 ((k:Int)-1)/\Below w.heap.size w wr/\Hid ((ae x).drop k=(ae y).drop k)) (fun i _=>(intOf i+1).toNat)
  case atStart=>exact ⟨_,Nat.le_refl _,rfl,Below.refl _ _,by show (ae x).drop (ae x).length=(ae y).drop (ae x).length;rw [List.drop_length,HL.out,List.drop_length]⟩
  case round=>
   obtain ⟨k,hk,rfl,hbel,HE⟩:=hrel;cases k with
   |zero=>
    have hxy:x=y:=by
     have:=HE.out;rw [List.drop_zero,List.drop_zero] at this;have:=congrArg ac this;rwa [am,am] at this
    have hR:Hid (bj x y=0):=by subst hxy;exact mz _
    clear hxy;go_wp2
    go_ret
    exact ⟨bI hR.out.symm,hbel⟩
   |succ k=>
    rw [show (((k+1:Nat):Int)-1)=(k:Int) by omega];have hlt:k<(ae x).length:=by omega
    have hlt':k<(ae y).length:=by have:=HL.out;omega
    rcases h4 with h4|⟨b,off,rfl,h4⟩
    ·rw [h4] at hlt;simp at hlt
    rcases h4' with h4'|⟨b',off',rfl,h4'⟩
    ·rw [h4'] at hlt';simp at hlt'
    obtain ⟨g0,g1⟩:=h4.u32 hlt;rw [←hbel.cell (p:=⟨b,off+k,none⟩) (hS _ h4.1)] at g0;obtain ⟨f0,f1⟩:=h4'.u32 hlt';rw [←hbel.cell (p:=⟨b',off'+k,none⟩) (hS _ h4'.1)] at f0;have HX:=hid (bd x);have HY:=hid (bd y);have HVX:=hid (am x);have HVY:=hid (am y);rcases Nat.lt_trichotomy (ae x)[k] (ae y)[k] with hc|hc|hc
    ·have hR:Hid (bj x y= -1):=eF (by rw [←HVX.out,←HVY.out];exact dJ HX.out HL.out k hlt hlt' HE.out hc);have q1:(((ae x)[k]:Int) !=((ae y)[k]:Int))=true:=by rw [bne_iff_ne];omega
     have q1':((ae x)[k] !=(ae y)[k])=true:=by rw [bne_iff_ne];omega
     go_wp2
     go_quiet (fail)
     go_wp2
     go_quiet (fail)
     go_wp2
     go_ret
     exact ⟨bI hR.out.symm,(hbel.drewN _).drewN _⟩
    ·have q1:(((ae x)[k]:Int) !=((ae y)[k]:Int))=false:=by simp [hc]
     have q1':((ae x)[k] !=(ae y)[k])=false:=by simp [hc]
     have HC:=hid hc;clear hc;go_wp2
     go_quiet (fail)
     go_wp2
     go_roundw
     case rel=>exact ⟨k,by omega,rfl,hbel.drewN _,by show (ae x).drop k=(ae y).drop k;rw [List.drop_eq_getElem_cons hlt,List.drop_eq_getElem_cons hlt',HC.out,HE.out]⟩
     case measure=>simp [intOf]
    have hR:Hid (bj x y=1):=iy (by rw [←HVX.out,←HVY.out];exact dJ HY.out HL.out.symm k hlt' hlt HE.out.symm hc);have q1:(((ae x)[k]:Int) !=((ae y)[k]:Int))=true:=by rw [bne_iff_ne];omega
    have q1':((ae x)[k] !=(ae y)[k])=true:=by rw [bne_iff_ne];omega
    have q2:¬(ae x)[k]<(ae y)[k]:=by omega
    go_wp2
    go_quiet (fail)
    go_wp2
    go_quiet (fail)
    go_wp2
    go_ret
    exact ⟨bI hR.out.symm,(hbel.drewN _).drewN _⟩
 have hR:=hid (iy (ef hl));have hl':((ae x).length !=(ae y).length)=true:=by simp;omega
 have hl2:¬(((ae x).length:Int)=((ae y).length:Int)):=by omega
 have HS:=hid (AB (((ae x).length:Int)-(ae y).length));have hsg:gb (((ae x).length:Int)-(ae y).length)=1:=by unfold gb;rw [if_neg (by omega),if_pos (by omega)]
 rw [hsg] at HS;clear hsg;go_enter func192,ntmps192
 go_wp2_with fail
 refine Calls.mono (HS.out _) ?_;rintro e w1 ⟨rfl,rfl⟩;go_wp2
 go_ret
 exact ⟨bI hR.out.symm,Below.refl _ _⟩
theorem Jx (x y c:Int) (w:World) (hx0:0<=x) (hx:x<4294967296) (hy0:0<=y) (hy:y<4294967296) (hc0:0<=c) (hc:c<4294967296):
  Calls prog 191 #[.int .u32 x,.int .u32 y,.int .u32 c] w fun e w'=>e= .returned (.tuple #[.int .u32 ((x+y+c)%4294967296),.int .u32 ((x+y+c)/4294967296)])/\w=w':=by
 go_enter func191,ntmps191
 go_wp2
 go_ret2
 refine ⟨?_,rfl⟩;simp
def cD (x y c:Int):Int:=if x<y+c then 1 else 0
theorem dp (x y c:Int):0<=cD x y c/\cD x y c<=1:=by unfold cD;split<;>omega
theorem yx (a b:Nat):(a|||b)/2147483648=a/2147483648|||b/2147483648:=by
 have:=Nat.shiftRight_or_distrib (a:=a) (b:=b) (i:=31);simpa [Nat.shiftRight_eq_div_pow] using this
theorem wN (a b:Nat):(a&&&b)/2147483648=a/2147483648&&&b/2147483648:=by
 have:=Nat.shiftRight_and_distrib (a:=a) (b:=b) (i:=31);simpa [Nat.shiftRight_eq_div_pow] using this
theorem wO (a b:Nat):(a^^^b)/2147483648=a/2147483648^^^b/2147483648:=by
 have:=Nat.shiftRight_xor_distrib (a:=a) (b:=b) (i:=31);simpa [Nat.shiftRight_eq_div_pow] using this
theorem qw (X Y D c:Nat) (hX:X<4294967296) (hY:Y<4294967296) (hD:D<4294967296) (hc:c<=1) (hd:(D:Int)=((X:Int)-Y-c)%4294967296):
  (((4294967295^^^X)&&&Y|||(4294967295^^^(X^^^Y))&&&D)/2147483648:Nat)=if (X:Int)<Y+c then 1 else 0:=by
 simp only [yx,wN,wO];have e:4294967295/2147483648=1:=by decide
 rw [e];have hx:X/2147483648=0∨X/2147483648=1:=by omega
 have hy:Y/2147483648=0∨Y/2147483648=1:=by omega
 have hdd:D/2147483648=0∨D/2147483648=1:=by omega
 rcases hx with hx|hx<;>rcases hy with hy|hy<;>rcases hdd with hdd|hdd<;>rw [hx,hy,hdd]<;>simp<;>omega
theorem nl {a b:Nat} (ha:a<4294967296) (hb:b<4294967296):a^^^b<4294967296:=Nat.xor_lt_two_pow (n:=32) ha hb
theorem uu {a b:Nat} (hb:b<4294967296):a&&&b<4294967296:=Nat.and_lt_two_pow (n:=32) a hb
theorem oN (x y c:Int) (hx0:0<=x) (hx:x<4294967296) (hy0:0<=y) (hy:y<4294967296) (hc0:0<=c) (hc:c<=1):
  bits BinOp.or IntKind.u32 (bits BinOp.and IntKind.u32 (bits BinOp.xor IntKind.u32 IntKind.u32.max x) y)
   (bits BinOp.and IntKind.u32 (bits BinOp.xor IntKind.u32 IntKind.u32.max (bits BinOp.xor IntKind.u32 x y)) ((x-y-c)%4294967296))/2147483648=cD x y c:=by
 obtain ⟨X,rfl⟩:=Int.eq_ofNat_of_zero_le hx0;obtain ⟨Y,rfl⟩:=Int.eq_ofNat_of_zero_le hy0;obtain ⟨C,rfl⟩:=Int.eq_ofNat_of_zero_le hc0;obtain ⟨D,hD⟩:=Int.eq_ofNat_of_zero_le (Int.emod_nonneg ((X:Int)-Y-C) (by omega:(4294967296:Int)≠0));have hDl:D<4294967296:=by omega
 have hX:X<4294967296:=by omega
 have hY:Y<4294967296:=by omega
 have em:IntKind.u32.max=((4294967295:Nat):Int):=rfl;have hM:4294967295<4294967296:=by omega
 rw [hD,em,u32_xor_nat _ _ hM hX,u32_and_nat _ _ (nl hM hX) hY,u32_xor_nat _ _ hX hY,u32_xor_nat _ _ hM (nl hX hY),u32_and_nat _ _ (nl hM (nl hX hY)) hDl,
  u32_or_nat _ _ (uu hY) (uu hDl)]
 have:=qw X Y D C hX hY hDl (by omega) hD.symm;unfold cD;rw [show ((2147483648:Int))=((2147483648:Nat):Int) from rfl,←Int.natCast_ediv,this];split<;>rfl
theorem iz (x y c:Int) (w:World) (hx0:0<=x) (hx:x<4294967296) (hy0:0<=y) (hy:y<4294967296) (hc0:0<=c) (hc:c<=1):
  Calls prog 235 #[.int .u32 x,.int .u32 y,.int .u32 c] w fun e w'=>e= .returned (.tuple #[.int .u32 ((x-y-c)%4294967296),.int .u32 (cD x y c)])/\w=w':=by
 have HB:=hid (oN x y c hx0 hx hy0 hy hc0 hc);go_enter func235,ntmps235
 go_wp2
 go_ret2
 refine ⟨?_,rfl⟩;rw [←HB.out];rfl
def zr (n:Nat):Nat:=(bv n).length
theorem gB (n:Nat):(ae n).length<=zr n:=by
 apply bS;have h:=gU n;have:256^(bv n).length<=4294967296^(bv n).length:=Nat.pow_le_pow_left (by decide) _;unfold zr;omega
theorem bT (ys:List Nat) (k:Nat):ac (ys.take (k+1))=ac (ys.take k)+4294967296^k*ys.getD k 0:=by
 by_cases h:k<ys.length
 ·rw [br ys k h];simp [List.getD,h]
 rw [List.take_of_length_le (by omega),List.take_of_length_le (by omega)];simp [List.getD,List.getElem?_eq_none (by omega:ys.length<=k)]
theorem eW {f:Nat->Value} {ds:List Nat} {k:Nat} (hk:ds.length=k) (h:∀j,f j= .int .u32 ((ds.getD j 0:Nat):Int)) (d:Nat):∀j,upd f k (.int .u32 (d:Int)) j= .int .u32 (((ds++[d]).getD j 0:Nat):Int):=by
 intro j;unfold upd;by_cases hj:j=k
 ·rw [if_pos hj,hj,←hk];simp [List.getD]
 rw [if_neg hj,h j];congr 2;rcases Nat.lt_or_gt_of_ne hj with h1|h1
 ·simp [List.getD,List.getElem?_append_left (by omega:j<ds.length)]
 simp [List.getD,List.getElem?_eq_none (by omega:ds.length<=j),List.getElem?_eq_none (by simp;omega:(ds++[d]).length<=j)]
theorem dv {w:World} {g E n:Nat} {f:Nat->Value} {ds:List Nat} (h:Own w g E n f) (hf:∀j,f j= .int .u32 ((ds.getD j 0:Nat):Int)) (hl:ds.length=n) (hn:n<=9223372036854775807) (hd:∀x∈ds,x<4294967296):
  ax 1 bi w (LT w.heap.size) [.slice (some ⟨g,0,none⟩) n n] ds:=by
 refine h.reads hl (by unfold maxLen;omega) fun j hj=>⟨?_,hd _ (List.getElem_mem hj)⟩
 rw [hf j];simp [List.getD,hj]
theorem np (u:Nat) (w:World) (hu:u<18446744073709551616):
  Calls prog 114 #[.int .u64 u] w fun e w'=>e= .returned (.string (al u))/\Below w.heap.size w w':=by
 have e1:ac [u%4294967296,u/4294967296]=u:=by simp [ac];omega
 have hR:∀o:World,Own o w.heap.size 168 2 (fun j=> .int .u32 (([u%4294967296,u/4294967296]:List Nat).getD j 0:Nat))->ax 1 bi o (LT o.heap.size) [.slice (some ⟨w.heap.size,0,none⟩) 2 2] [u%4294967296,u/4294967296]:=fun o ho=>
  dv ho (fun _=>rfl) rfl (by omega) (by intro x hx;simp at hx;omega)
 have hO:Own (w.alloc (.cells #[.int .u32 ((u:Int)%4294967296),.int .u32 ((u:Int)/4294967296)] 168)) w.heap.size 168 2 (fun j=> .int .u32 (([u%4294967296,u/4294967296]:List Nat).getD j 0:Nat)):=by
  have:=Own.new w 168 2 (fun j=> .int .u32 (([u%4294967296,u/4294967296]:List Nat).getD j 0:Nat));have e:(Array.range 2).map (fun j=>Value.int .u32 (([u%4294967296,u/4294967296]:List Nat).getD j 0:Nat))= #[.int .u32 ((u:Int)%4294967296),.int .u32 ((u:Int)/4294967296)]:=by
   apply Array.ext';simp [List.range_succ]
  rw [e] at this;exact this
 have HT:=hid (eU _ _ _ _ (fun _ h=>h) (by simp) (hR _ hO));rw [e1] at HT;clear hR hO e1;go_enter func114,ntmps114
 go_wp2_with fail
 refine Calls.mono HT.out ?_;rintro e w1 ⟨rfl,hb1⟩;go_wp2
 go_ret
 exact ⟨rfl,((Below.refl w.heap.size w).alloc (Nat.le_refl _) _).step hb1⟩
theorem bG (s:ByteArray) (w:World) (hs:s.size<=maxLen):
  Calls prog 125 #[.string s] w fun e w'=>e= .returned (.string (al (ah s)))/\w=w':=by
 unfold maxLen at hs;go_enter func125,ntmps125
 go_wp2
 go_loop [3] (fun t=>∃k:Nat,k<=s.size/\t= .int .i64 k/\Hid (ah (s.extract k s.size)=ah s)) (fun t=>s.size-(intOf t).toNat)
 case atStart=>exact ⟨0,Nat.zero_le _,rfl,by simp [Hid]⟩
 case round=>
  obtain ⟨k,hk,rfl,HE⟩:=hrel;by_cases hlt:k<s.size
  ·by_cases hz:s[k]=0
   ·have hz':((s[k]'hlt).toNat==0)=true:=by rw [hz];rfl
    have HZ:=hid hz;clear hz;go_wp2
    go_round
    case rel=>
     refine ⟨k+1,by omega,by go_num,?_⟩;have:=kY s k hlt;rw [HZ.out] at this;rw [←HE.out,this];simp [Hid]
    case measure=>simp [intOf];omega
   have hz':((s[k]'hlt).toNat==0)=false:=by
    simp only [beq_eq_false_iff_ne];intro h;apply hz;exact UInt8.toNat_inj.1 (by simpa using h)
   have hR:Hid (al (ah s)=s.extract k s.size):=by
    rw [←HE.out];exact eM fun h=>by rw [kX s k hlt];exact hz
   clear hz;go_wp2
   go_ret
   exact ⟨ji hR.out.symm,rfl⟩
  have hR:Hid (al (ah s)=s.extract k s.size):=by
   rw [←HE.out];exact eM fun h=>by simp at h;omega
  go_wp2
  go_ret
  exact ⟨ji hR.out.symm,rfl⟩
theorem iH (s:ByteArray):(al (ah s)).size<=s.size:=by rw [bx];exact ba (cQ s)
theorem ge (S:Nat->Prop) (v:Value) (xs:List Nat) (w:World) (hv:ax 1 bi w S [v] xs):
  Calls prog 127 #[v] w fun e w'=>∃u,e= .returned u/\w=w'/\ax 1 bi w S [u] (ae (ac xs)):=by
 have hlt:=hid (eN hv);obtain ⟨a,cap,rfl,h1,h2,h3,h4⟩:=aM hv;have hn:=dX h1 h2;have hcap:cap<=9223372036854775807:=by unfold maxLen at h2;omega
 go_enter func127,ntmps127
 go_wp2
 go_loop [3] (fun i=>∃k:Nat,k<=xs.length/\i= .int .i64 k/\Hid (∀j (hj:j<xs.length),k<=j->xs[j]=0)) (fun i=>(intOf i).toNat)
 case atStart=>exact ⟨xs.length,Nat.le_refl _,rfl,fun j hj h=>by omega⟩
 case round=>
  obtain ⟨k,hk,rfl,HE⟩:=hrel;cases k with
  |zero=>
   have e:=ff hlt.out 0 (by omega) HE.out (fun h=>by omega);rw [List.take_zero] at e;have E:=hid e;clear e;go_wp2
   go_ret
   refine ⟨_,rfl,rfl,?_⟩;rw [E.out];exact ⟨a,cap,rfl,by simp,h2,h3,.inl rfl⟩
  |succ k=>
   rcases h4 with rfl|⟨b,off,rfl,h4⟩
   ·simp at hk
   have g0:=(h4.u32 (j:=k) (by omega)).1;have ei:((k+1:Nat):Int)-1=(k:Int):=by omega
   by_cases hz:xs[k]=0
   ·have hz':((xs[k]:Int)==0)=true:=by simp [hz]
    have HZ:=hid hz;clear hz;go_wp2
    go_round
    case rel=>
     refine ⟨k,by omega,rfl,fun j hj hkj=>?_⟩;by_cases hjk:j=k
     ·subst hjk;exact HZ.out
     exact HE.out j hj (by omega)
    case measure=>simp [intOf]
   have hz':((xs[k]:Int)==0)=false:=by simpa using hz
   have E:=hid (ff hlt.out (k+1) hk HE.out (fun _=>hz));clear hz;go_wp2
   go_ret
   refine ⟨_,rfl,rfl,?_⟩;rw [E.out];exact ⟨some ⟨b,off,none⟩,cap,by simp;omega,by simp;omega,h2,by simp,.inr ⟨b,off,rfl,h4.take _⟩⟩
theorem sZ (v:Nat):(ae v).length=((al v).size+3)/4:=by
 rw [bx];obtain ⟨m,hm⟩:∃m,m=((bv v).length+3)/4:=⟨_,rfl⟩;rw [←hm];have e:∀k,(4294967296:Nat)^k=256^(4*k):=fun k=>by rw [Nat.pow_mul]
 have h1:=gU v;have h2:256^(bv v).length<=4294967296^m:=by rw [e];exact Nat.pow_le_pow_right (by decide) (by omega)
 have h3:=bS (Nat.lt_of_lt_of_le h1 h2);rcases Nat.eq_zero_or_pos m with h0|h0
 ·omega
 have h4:256^((bv v).length-1)<=v:=by
  rcases Nat.lt_or_ge v (256^((bv v).length-1)) with h|h
  ·have:=ba h;omega
  exact h
 have h5:4294967296^(m-1)<=v:=by
  rw [e];exact Nat.le_trans (Nat.pow_le_pow_right (by decide) (by omega)) h4
 have:=kW h5;omega
theorem AC (v:Nat):cq (((al v).size+3)/4) v=ae v:=by
 have:=oJ (bd v);rw [am,sZ] at this;exact this
theorem ta (s0:ByteArray) (w:World) (hs0:s0.size<=1000000000000):
  Calls prog 89 #[.string s0] w fun e w'=>∃u,e= .returned u/\ax 1 bi w' (LT w'.heap.size) [u] (ae (ah s0))/\Below w.heap.size w w':=by
 have HN:=hid (bG s0 w (by unfold maxLen;omega));have hsz:=iH s0;have hsv:ah (al (ah s0))=ah s0:=aw _;have hfix:=AC (ah s0);generalize al (ah s0)=s at *
 rw [←hsv] at hfix ⊢;have HFX:=hid hfix;clear hfix hsv;have hs:s.size<=1000000000000:=by omega
 obtain ⟨m,hm⟩:∃m:Nat,m=(s.size+3)/4:=⟨_,rfl⟩;rw [←hm] at HFX;have hm1:((s.size:Int)+3)/4=(m:Int):=by omega
 have hmk:=fun (w:World)=>cy (P:=prog) underlying150 Tryz.infoU32 rfl w m (by omega) (by omega)
 have hn:s.size<=9223372036854775807:=by omega
 have HM:=hid hm;clear hm hsz hs0;go_enter func89,ntmps89
 go_wp2_with fail
 refine Calls.mono HN.out ?_;rintro e w1 ⟨rfl,rfl⟩;go_wp2
 clear hmk;go_loopw [4] (fun i wr=>∃(k:Nat) (f:Nat->Value),k<=s.size/\i= .int .i64 k/\Below w.heap.size w wr/\Own wr w.heap.size 168 m f/\Hid (∀j,j<m->f j= .int .u32 ((ah s%256^k/4294967296^j%4294967296:Nat):Int))) (fun i _=>s.size-(intOf i).toNat)
 case atStart=>exact ⟨0,_,Nat.zero_le _,rfl,(Below.refl _ _).alloc (Nat.le_refl _) _,Own.new _ _ _ _,fun j _=>by simp [Nat.mod_one]⟩
 case round=>
  obtain ⟨k,f,hk,rfl,hbel,hown,HF⟩:=hrel;by_cases hlt:k<s.size
  ·obtain ⟨q,hq⟩:∃q:Nat,q=k/4:=⟨_,rfl⟩;have hq1:((k:Int)/4)=(q:Int):=by omega
   have hqm:q<m:=by have:=HM.out;omega
   have c1:=hown.cell hqm;rw [HF.out q hqm] at c1;obtain ⟨x,hx⟩:∃x:Nat,x=ah s%256^k/4294967296^q%4294967296:=⟨_,rfl⟩;rw [←hx] at c1;have c2:=hown.frozen q;have HQ:=hid hq;have HX:=hid hx;clear hq hx;have d1:(s.size:Int)-1-k=((s.size-1-k:Nat):Int):=by omega
   have d2:s.size-1-k<s.size:=by omega
   have hb:ah s/256^k%256=(s[s.size-1-k]'d2).toNat:=ur s.data.toList k hlt;have Hb:=hid hb;have hr:k%4=0∨k%4=1∨k%4=2∨k%4=3:=by omega
   rcases hr with hr|hr|hr|hr
   ·have hr1:((k:Int)%4)=0:=by omega
    have HP:=hid (dl (ah s) k q 0 x _ 1 (by decide) (by omega) (by have:=HQ.out;omega) HX.out hb.symm);clear hb;go_wp2
    go_region
    go_wp2
    go_roundw
    case rel=>
     refine ⟨k+1,upd f q _,by omega,by go_num,(hbel.setCell (Nat.le_refl _) _).drew,(hown.set _ _).drew,fun j hj=>?_⟩;unfold upd;by_cases hjq:j=q
     ·rw [if_pos hjq,hjq,←HP.out.2.2.2,eR x s[s.size-1-k].toNat 0 1 (by decide) (by omega) HP.out.1 HP.out.2.1 _ (by have:=HP.out.2.2.1;omega)]
     rw [if_neg hjq,cT _ k q j HQ.out hjq];exact HF.out j hj
    case measure=>simp [intOf];omega
   ·have hr1:((k:Int)%4)=1:=by omega
    have HP:=hid (dl (ah s) k q 1 x _ 256 (by decide) (by omega) (by have:=HQ.out;omega) HX.out hb.symm);clear hb;go_wp2
    go_region
    go_wp2
    go_roundw
    case rel=>
     refine ⟨k+1,upd f q _,by omega,by go_num,(hbel.setCell (Nat.le_refl _) _).drew,(hown.set _ _).drew,fun j hj=>?_⟩;unfold upd;by_cases hjq:j=q
     ·rw [if_pos hjq,hjq,←HP.out.2.2.2,eR x s[s.size-1-k].toNat 8 256 (by decide) (by omega) HP.out.1 HP.out.2.1 _ (by have:=HP.out.2.2.1;omega)]
     rw [if_neg hjq,cT _ k q j HQ.out hjq];exact HF.out j hj
    case measure=>simp [intOf];omega
   ·have hr1:((k:Int)%4)=2:=by omega
    have HP:=hid (dl (ah s) k q 2 x _ 65536 (by decide) (by omega) (by have:=HQ.out;omega) HX.out hb.symm);clear hb;go_wp2
    go_region
    go_wp2
    go_roundw
    case rel=>
     refine ⟨k+1,upd f q _,by omega,by go_num,(hbel.setCell (Nat.le_refl _) _).drew,(hown.set _ _).drew,fun j hj=>?_⟩;unfold upd;by_cases hjq:j=q
     ·rw [if_pos hjq,hjq,←HP.out.2.2.2,eR x s[s.size-1-k].toNat 16 65536 (by decide) (by omega) HP.out.1 HP.out.2.1 _ (by have:=HP.out.2.2.1;omega)]
     rw [if_neg hjq,cT _ k q j HQ.out hjq];exact HF.out j hj
    case measure=>simp [intOf];omega
   have hr1:((k:Int)%4)=3:=by omega
   have HP:=hid (dl (ah s) k q 3 x _ 16777216 (by decide) (by omega) (by have:=HQ.out;omega) HX.out hb.symm);clear hb;go_wp2
   go_region
   go_wp2
   go_roundw
   case rel=>
    refine ⟨k+1,upd f q _,by omega,by go_num,(hbel.setCell (Nat.le_refl _) _).drew,(hown.set _ _).drew,fun j hj=>?_⟩;unfold upd;by_cases hjq:j=q
    ·rw [if_pos hjq,hjq,←HP.out.2.2.2,eR x s[s.size-1-k].toNat 24 16777216 (by decide) (by omega) HP.out.1 HP.out.2.1 _ (by have:=HP.out.2.2.1;omega)]
    rw [if_neg hjq,cT _ k q j HQ.out hjq];exact HF.out j hj
   case measure=>simp [intOf];omega
  have hR:ax 1 bi wr (LT wr.heap.size) [.slice (some ⟨w.heap.size,0,none⟩) m m] (cq m (ah s)):=by
   refine hown.reads (cj _ _) (by unfold maxLen;have:=HM.out;omega) fun j hj=>?_
   rw [cj] at hj;have hk':k=s.size:=by omega
   have e:ah s%256^k=ah s:=Nat.mod_eq_of_lt (by rw [hk'];exact cQ s);rw [HF.out j hj,e];have g:=eb m (ah s) j hj;rw [List.getElem?_eq_getElem (by rw [cj];exact hj)] at g;rw [Option.some.inj g];exact ⟨rfl,Nat.mod_lt _ (by decide)⟩
  rw [HFX.out] at hR;go_wp2
  go_ret
  exact ⟨_,rfl,hR,hbel⟩
theorem wP (a b:ByteArray) (w:World) (ha:a.size<=500000000000) (hb:b.size<=500000000000):
  Calls prog 150 #[.string a,.string b] w fun e w'=>e= .returned (.string (al (ah a+ah b)))/\Below w.heap.size w w':=by
 have la:(ae (ah a)).length<=500000000000:=by
  refine Nat.le_trans (gB _) (Nat.le_trans ?_ ha);exact ba (cQ a)
 have lb:(ae (ah b)).length<=500000000000:=by
  refine Nat.le_trans (gB _) (Nat.le_trans ?_ hb);exact ba (cQ b)
 have va:=hid (am (ah a));have vb:=hid (am (ah b));have H1:=hid (cH a w (by omega));go_enter func150,ntmps150
 go_wp2_with fail
 refine Calls.mono H1.out ?_;rintro e w1 ⟨p,rfl,hp,hb1⟩;go_wp2_with fail
 refine (cH b w1 (by omega)).mono ?_;rintro e w2 ⟨q,rfl,hq,hb2⟩;have hp2:=(aF aX).below hp hb2 hb2.size;clear hp;have hbel:=hb1.step hb2;obtain ⟨pa,pc,rfl,p1,p2,p3,p4⟩:=aM hp2;obtain ⟨qa,qc,rfl,q1,q2,q3,q4⟩:=aM hq;by_cases hl:(ae (ah a)).length<(ae (ah b)).length
 ·skip;obtain ⟨m,hm⟩:∃m:Nat,m=(ae (ah b)).length+1:=⟨_,rfl⟩;have hm1:((ae (ah b)).length:Int)+1=(m:Int):=by omega
  have hmk:=fun (w:World)=>cy (P:=prog) underlying218 Tryz.infoU32 rfl w m (by omega) (by omega)
  have HM:=hid hm;clear hm;go_wp2
  clear hmk;go_loopw [8,9,10,28] (fun c _ _ i wr=>∃(k c':Nat) (ds:List Nat) (f:Nat->Value),k<=(ae (ah b)).length/\i= .int .i64 k/\c= .int .u32 (c':Int)/\c'<=1/\Below w.heap.size w wr/\w2.heap.size<wr.heap.size/\Below w2.heap.size w2 wr/\Own wr w2.heap.size 168 m f/\Hid (∀j,f j= .int .u32 ((ds.getD j 0:Nat):Int))/\Hid (ds.length=k)/\Hid (∀x∈ds,x<4294967296)/\
   Hid (ac ds+4294967296^k*c'=ac ((ae (ah b)).take k)+ac ((ae (ah a)).take k))) (fun _ _ _ i _=>(ae (ah b)).length-(intOf i).toNat)
  case atStart=>exact ⟨0,0,[],_,Nat.zero_le _,rfl,rfl,by omega,hbel.alloc hbel.size _,by simp,(Below.refl _ _).alloc (Nat.le_refl _) _,Own.new _ _ _ _,fun j=>by simp,rfl,fun x hx=>by simp at hx,by simp [Hid,ac]⟩
  case round=>
   obtain ⟨k,c',ds,f,hk,rfl,rfl,hc',hbw,hsz,hbw2,hown,HF,HL,HD,HV⟩:=hrel;by_cases hlt:k<(ae (ah b)).length
   ·have hkm:k<m:=by have:=HM.out;omega
    rcases q4 with h0|⟨b1,off1,rfl,x4⟩
    ·rw [h0] at hlt;simp at hlt
    obtain ⟨g0,g1⟩:=x4.u32 hlt;rw [←hbw2.cell (p:=⟨b1,off1+k,none⟩) x4.1] at g0;have c1:=hown.cell hkm;rw [HF.out k] at c1;have c2:=hown.frozen k;have e1:=bT (ae (ah b)) k;have e2:=bT (ae (ah a)) k;have ex:(ae (ah b)).getD k 0=(ae (ah b))[k]:=by simp [List.getD,hlt]
    rw [ex] at e1;have E1:=hid e1;have E2:=hid e2;clear e1 e2 ex;by_cases hy:k<(ae (ah a)).length
    ·rcases p4 with h0|⟨b2,off2,rfl,y4⟩
     ·rw [h0] at hy;simp at hy
     obtain ⟨f0,f1⟩:=y4.u32 hy;rw [←hbw2.cell (p:=⟨b2,off2+k,none⟩) y4.1] at f0;have ey:=hid (show (ae (ah a)).getD k 0=(ae (ah a))[k] by simp [List.getD,hy]);obtain ⟨d,hd⟩:∃d:Nat,(d:Int)=(((ae (ah b))[k]:Int)+((ae (ah a))[k]:Int)+(c':Int))%4294967296:=⟨(((ae (ah b))[k]+(ae (ah a))[k]+c')%4294967296),by omega⟩;obtain ⟨e,he⟩:∃e:Nat,(e:Int)=(((ae (ah b))[k]:Int)+((ae (ah a))[k]:Int)+(c':Int))/4294967296:=⟨(((ae (ah b))[k]+(ae (ah a))[k]+c')/4294967296),by omega⟩;have hde:d+4294967296*e=(ae (ah b))[k]+(ae (ah a))[k]+c':=by omega
     have hd1:d<4294967296:=by omega
     have he1:e<=1:=by omega
     have HA:=hid (Jx ((ae (ah b))[k]:Int) ((ae (ah a))[k]:Int) (c':Int) wr (by omega) (by omega) (by omega) (by omega) (by omega) (by omega));rw [←hd,←he] at HA;have HDE:=hid hde;clear hd he hde;go_wp2_with fail
     refine Calls.mono HA.out ?_;rintro e' w3 ⟨rfl,rfl⟩;clear HA;go_wp2
     go_roundw
     case rel=>
      refine ⟨k+1,e,ds++[d],upd f k (.int .u32 d),by omega,by go_num,rfl,he1,hbw.setCell (by simpa using hbel.size) _,by simpa using hsz,hbw2.setCell (Nat.le_refl _) _,hown.set _ _,eW HL.out HF.out d,?_,?_,?_⟩
      ·show (ds++[d]).length=k+1;simp [HL.out]
      ·intro x hx;rcases List.mem_append.1 hx with h|h
       ·exact HD.out x h
       simp at h;omega
      show ac (ds++[d])+4294967296^(k+1)*e=_;rw [aD,HL.out,E1.out,E2.out,ey.out,Nat.pow_succ,Nat.mul_assoc];have h1:=HV.out;have h2:4294967296^k*d+4294967296^k*(4294967296*e)=4294967296^k*(ae (ah b))[k]+4294967296^k*(ae (ah a))[k]+4294967296^k*c':=by rw [←Nat.mul_add,HDE.out,Nat.mul_add,Nat.mul_add]
      omega
     case measure=>simp [intOf];omega
    have ey:=hid (show (ae (ah a)).getD k 0=0 by simp [List.getD,List.getElem?_eq_none (by omega:(ae (ah a)).length<=k)]);obtain ⟨d,hd⟩:∃d:Nat,(d:Int)=(((ae (ah b))[k]:Int)+0+(c':Int))%4294967296:=⟨(((ae (ah b))[k]+c')%4294967296),by omega⟩;obtain ⟨e,he⟩:∃e:Nat,(e:Int)=(((ae (ah b))[k]:Int)+0+(c':Int))/4294967296:=⟨(((ae (ah b))[k]+c')/4294967296),by omega⟩;have hde:d+4294967296*e=(ae (ah b))[k]+c':=by omega
    have hd1:d<4294967296:=by omega
    have he1:e<=1:=by omega
    have HA:=hid (Jx ((ae (ah b))[k]:Int) 0 (c':Int) wr (by omega) (by omega) (by omega) (by omega) (by omega) (by omega));rw [←hd,←he] at HA;have HDE:=hid hde;clear hd he hde;go_wp2_with fail
    refine Calls.mono HA.out ?_;rintro e' w3 ⟨rfl,rfl⟩;clear HA;go_wp2
    go_roundw
    case rel=>
     refine ⟨k+1,e,ds++[d],upd f k (.int .u32 d),by omega,by go_num,rfl,he1,hbw.setCell (by simpa using hbel.size) _,by simpa using hsz,hbw2.setCell (Nat.le_refl _) _,hown.set _ _,eW HL.out HF.out d,?_,?_,?_⟩
     ·show (ds++[d]).length=k+1;simp [HL.out]
     ·intro x hx;rcases List.mem_append.1 hx with h|h
      ·exact HD.out x h
      simp at h;omega
     show ac (ds++[d])+4294967296^(k+1)*e=_;rw [aD,HL.out,E1.out,E2.out,ey.out,Nat.pow_succ,Nat.mul_assoc];have h1:=HV.out;have h2:4294967296^k*d+4294967296^k*(4294967296*e)=4294967296^k*(ae (ah b))[k]+4294967296^k*c':=by rw [←Nat.mul_add,HDE.out,Nat.mul_add]
     omega
    case measure=>simp [intOf];omega
   have hk':k=(ae (ah b)).length:=by omega
   have hkm:(ae (ah b)).length<m:=by have:=HM.out;omega
   have hs:ac (ds++[c'])=ah a+ah b:=by
    have h1:=HV.out;rw [List.take_of_length_le (by omega),List.take_of_length_le (by omega),va.out,vb.out] at h1;rw [aD,HL.out];omega
   have HR:=hid (fun ww (h:Own ww w2.heap.size 168 m (upd f (ae (ah b)).length (.int .u32 c')))=>eU _ _ (ds++[c']) _ (fun _ h=>h) (by simp [HL.out];have:=HM.out;omega) (dv h (by rw [←hk'];exact eW HL.out HF.out c') (by simp [HL.out];have:=HM.out;omega) (by omega) (by intro x hx;rcases List.mem_append.1 hx with h|h;exact HD.out x h;simp at h;omega)));rw [hs] at HR;have c1:=hown.cell hkm;rw [HF.out] at c1;have c2:=hown.frozen (ae (ah b)).length;clear hs hk';go_wp2_with fail
   refine Calls.mono (HR.out _ (hown.set _ _)) ?_;rintro e' w3 ⟨rfl,hb3⟩;go_wp2
   go_ret
   exact ⟨rfl,(hbw.setCell (p:=⟨w2.heap.size,_,none⟩) hbel.size _).step hb3⟩
 skip;obtain ⟨m,hm⟩:∃m:Nat,m=(ae (ah a)).length+1:=⟨_,rfl⟩;have hm1:((ae (ah a)).length:Int)+1=(m:Int):=by omega
 have hmk:=fun (w:World)=>cy (P:=prog) underlying218 Tryz.infoU32 rfl w m (by omega) (by omega)
 have HM:=hid hm;clear hm;go_wp2
 clear hmk;go_loopw [8,9,10,28] (fun c _ _ i wr=>∃(k c':Nat) (ds:List Nat) (f:Nat->Value),k<=(ae (ah a)).length/\i= .int .i64 k/\c= .int .u32 (c':Int)/\c'<=1/\Below w.heap.size w wr/\w2.heap.size<wr.heap.size/\Below w2.heap.size w2 wr/\Own wr w2.heap.size 168 m f/\Hid (∀j,f j= .int .u32 ((ds.getD j 0:Nat):Int))/\Hid (ds.length=k)/\Hid (∀x∈ds,x<4294967296)/\
  Hid (ac ds+4294967296^k*c'=ac ((ae (ah a)).take k)+ac ((ae (ah b)).take k))) (fun _ _ _ i _=>(ae (ah a)).length-(intOf i).toNat)
 case atStart=>exact ⟨0,0,[],_,Nat.zero_le _,rfl,rfl,by omega,hbel.alloc hbel.size _,by simp,(Below.refl _ _).alloc (Nat.le_refl _) _,Own.new _ _ _ _,fun j=>by simp,rfl,fun x hx=>by simp at hx,by simp [Hid,ac]⟩
 case round=>
  obtain ⟨k,c',ds,f,hk,rfl,rfl,hc',hbw,hsz,hbw2,hown,HF,HL,HD,HV⟩:=hrel;by_cases hlt:k<(ae (ah a)).length
  ·have hkm:k<m:=by have:=HM.out;omega
   rcases p4 with h0|⟨b1,off1,rfl,x4⟩
   ·rw [h0] at hlt;simp at hlt
   obtain ⟨g0,g1⟩:=x4.u32 hlt;rw [←hbw2.cell (p:=⟨b1,off1+k,none⟩) x4.1] at g0;have c1:=hown.cell hkm;rw [HF.out k] at c1;have c2:=hown.frozen k;have e1:=bT (ae (ah a)) k;have e2:=bT (ae (ah b)) k;have ex:(ae (ah a)).getD k 0=(ae (ah a))[k]:=by simp [List.getD,hlt]
   rw [ex] at e1;have E1:=hid e1;have E2:=hid e2;clear e1 e2 ex;by_cases hy:k<(ae (ah b)).length
   ·rcases q4 with h0|⟨b2,off2,rfl,y4⟩
    ·rw [h0] at hy;simp at hy
    obtain ⟨f0,f1⟩:=y4.u32 hy;rw [←hbw2.cell (p:=⟨b2,off2+k,none⟩) y4.1] at f0;have ey:=hid (show (ae (ah b)).getD k 0=(ae (ah b))[k] by simp [List.getD,hy]);obtain ⟨d,hd⟩:∃d:Nat,(d:Int)=(((ae (ah a))[k]:Int)+((ae (ah b))[k]:Int)+(c':Int))%4294967296:=⟨(((ae (ah a))[k]+(ae (ah b))[k]+c')%4294967296),by omega⟩;obtain ⟨e,he⟩:∃e:Nat,(e:Int)=(((ae (ah a))[k]:Int)+((ae (ah b))[k]:Int)+(c':Int))/4294967296:=⟨(((ae (ah a))[k]+(ae (ah b))[k]+c')/4294967296),by omega⟩;have hde:d+4294967296*e=(ae (ah a))[k]+(ae (ah b))[k]+c':=by omega
    have hd1:d<4294967296:=by omega
    have he1:e<=1:=by omega
    have HA:=hid (Jx ((ae (ah a))[k]:Int) ((ae (ah b))[k]:Int) (c':Int) wr (by omega) (by omega) (by omega) (by omega) (by omega) (by omega));rw [←hd,←he] at HA;have HDE:=hid hde;clear hd he hde;go_wp2_with fail
    refine Calls.mono HA.out ?_;rintro e' w3 ⟨rfl,rfl⟩;clear HA;go_wp2
    go_roundw
    case rel=>
     refine ⟨k+1,e,ds++[d],upd f k (.int .u32 d),by omega,by go_num,rfl,he1,hbw.setCell (by simpa using hbel.size) _,by simpa using hsz,hbw2.setCell (Nat.le_refl _) _,hown.set _ _,eW HL.out HF.out d,?_,?_,?_⟩
     ·show (ds++[d]).length=k+1;simp [HL.out]
     ·intro x hx;rcases List.mem_append.1 hx with h|h
      ·exact HD.out x h
      simp at h;omega
     show ac (ds++[d])+4294967296^(k+1)*e=_;rw [aD,HL.out,E1.out,E2.out,ey.out,Nat.pow_succ,Nat.mul_assoc];have h1:=HV.out;have h2:4294967296^k*d+4294967296^k*(4294967296*e)=4294967296^k*(ae (ah a))[k]+4294967296^k*(ae (ah b))[k]+4294967296^k*c':=by rw [←Nat.mul_add,HDE.out,Nat.mul_add,Nat.mul_add]
     omega
    case measure=>simp [intOf];omega
   have ey:=hid (show (ae (ah b)).getD k 0=0 by simp [List.getD,List.getElem?_eq_none (by omega:(ae (ah b)).length<=k)]);obtain ⟨d,hd⟩:∃d:Nat,(d:Int)=(((ae (ah a))[k]:Int)+0+(c':Int))%4294967296:=⟨(((ae (ah a))[k]+c')%4294967296),by omega⟩;obtain ⟨e,he⟩:∃e:Nat,(e:Int)=(((ae (ah a))[k]:Int)+0+(c':Int))/4294967296:=⟨(((ae (ah a))[k]+c')/4294967296),by omega⟩;have hde:d+4294967296*e=(ae (ah a))[k]+c':=by omega
   have hd1:d<4294967296:=by omega
   have he1:e<=1:=by omega
   have HA:=hid (Jx ((ae (ah a))[k]:Int) 0 (c':Int) wr (by omega) (by omega) (by omega) (by omega) (by omega) (by omega));rw [←hd,←he] at HA;have HDE:=hid hde;clear hd he hde;go_wp2_with fail
   refine Calls.mono HA.out ?_;rintro e' w3 ⟨rfl,rfl⟩;clear HA;go_wp2
   go_roundw
   case rel=>
    refine ⟨k+1,e,ds++[d],upd f k (.int .u32 d),by omega,by go_num,rfl,he1,hbw.setCell (by simpa using hbel.size) _,by simpa using hsz,hbw2.setCell (Nat.le_refl _) _,hown.set _ _,eW HL.out HF.out d,?_,?_,?_⟩
    ·show (ds++[d]).length=k+1;simp [HL.out]
    ·intro x hx;rcases List.mem_append.1 hx with h|h
     ·exact HD.out x h
     simp at h;omega
    show ac (ds++[d])+4294967296^(k+1)*e=_;rw [aD,HL.out,E1.out,E2.out,ey.out,Nat.pow_succ,Nat.mul_assoc];have h1:=HV.out;have h2:4294967296^k*d+4294967296^k*(4294967296*e)=4294967296^k*(ae (ah a))[k]+4294967296^k*c':=by rw [←Nat.mul_add,HDE.out,Nat.mul_add]
    omega
   case measure=>simp [intOf];omega
  have hk':k=(ae (ah a)).length:=by omega
  have hkm:(ae (ah a)).length<m:=by have:=HM.out;omega
  have hs:ac (ds++[c'])=ah a+ah b:=by
   have h1:=HV.out;rw [List.take_of_length_le (by omega),List.take_of_length_le (by omega),va.out,vb.out] at h1;rw [aD,HL.out];omega
  have HR:=hid (fun ww (h:Own ww w2.heap.size 168 m (upd f (ae (ah a)).length (.int .u32 c')))=>eU _ _ (ds++[c']) _ (fun _ h=>h) (by simp [HL.out];have:=HM.out;omega) (dv h (by rw [←hk'];exact eW HL.out HF.out c') (by simp [HL.out];have:=HM.out;omega) (by omega) (by intro x hx;rcases List.mem_append.1 hx with h|h;exact HD.out x h;simp at h;omega)));rw [hs] at HR;have c1:=hown.cell hkm;rw [HF.out] at c1;have c2:=hown.frozen (ae (ah a)).length;clear hs hk';go_wp2_with fail
  refine Calls.mono (HR.out _ (hown.set _ _)) ?_;rintro e' w3 ⟨rfl,hb3⟩;go_wp2
  go_ret
  exact ⟨rfl,(hbw.setCell (p:=⟨w2.heap.size,_,none⟩) hbel.size _).step hb3⟩
theorem ce (a:ByteArray):(ae (ah a)).length<=a.size:=Nat.le_trans (gB _) (ba (cQ a))
theorem nq (S : Nat → Prop) (u v : Value) (x y : Nat) (w : World) (hS : ∀ b, S b → b < w.heap.size) (hl : (ae x).length ≤ 1000000000000) (hyx : y ≤ x) (hu : ax 1 bi w S [u] (ae x)) (hv : ax 1 bi w S [v] (ae y)) :
    Calls prog 193 #[u, v] w fun e w' => ∃ r, e = .returned r ∧ ax 1 bi w' (LT w'.heap.size) [r] (ae (x - y)) ∧ Below w.heap.size w w' := by
  have hxlt := hid (bd x)
  have hylt := hid (bd y)
  have vx := hid (am x)
  have vy := hid (am y)
  have hylen : (ae y).length ≤ (ae x).length := by
    rcases Nat.lt_or_ge (ae x).length (ae y).length with h | h
    · have := ef h; omega
    exact h
  obtain ⟨xa, xc, rfl, x1, x2, x3, x4⟩ := aM hu
  obtain ⟨ya, yc, rfl, y1, y2, y3, y4⟩ := aM hv
  generalize ae x = xs at *
  generalize ae y = ys at *
  have hn := dX x1 x2
  have hmk := fun (w : World) => cy (P := prog) underlying218 Tryz.infoU32 rfl w xs.length (by omega) (by omega)
  go_enter func193, ntmps193
  go_wp2
  clear hmk
  go_loopw [6, 7, 8, 14] (fun c _ _ i wr => ∃ (k c' : Nat) (ds : List Nat) (f : Nat → Value), k ≤ xs.length ∧ i = .int .i64 k ∧ c = .int .u32 (c' : Int) ∧ c' ≤ 1 ∧ Below w.heap.size w wr ∧ w.heap.size < wr.heap.size ∧ Own wr w.heap.size 168 xs.length f ∧ Hid (∀ j, f j = .int .u32 ((ds.getD j 0 : Nat) : Int)) ∧ Hid (ds.length = k) ∧ Hid (∀ x ∈ ds, x < 4294967296) ∧
      Hid (ac ds + ac (ys.take k) = ac (xs.take k) + 4294967296 ^ k * c')) (fun _ _ _ i _ => xs.length - (intOf i).toNat)
  case atStart => exact ⟨0, 0, [], _, Nat.zero_le _, rfl, rfl, by omega, (Below.refl _ _).alloc (Nat.le_refl _) _, by simp, Own.new _ _ _ _, fun j => by simp, rfl, fun x hx => by simp at hx, by simp [Hid, ac]⟩
  case round =>
    obtain ⟨k, c', ds, f, hk, rfl, rfl, hc', hbw, hsz, hown, HF, HL, HD, HV⟩ := hrel
    by_cases hlt : k < xs.length
    · rcases x4 with rfl | ⟨b1, off1, rfl, x4⟩
      · simp at hlt
      obtain ⟨g0, g1⟩ := x4.u32 hlt
      rw [← hbw.cell (p := ⟨b1, off1 + k, none⟩) (hS _ x4.1)] at g0
      have c1 := hown.cell hlt
      rw [HF.out k] at c1
      have c2 := hown.frozen k
      have e1 := bT xs k
      have e2 := bT ys k
      have ex : xs.getD k 0 = xs[k] := by simp [List.getD, hlt]
      rw [ex] at e1
      have E1 := hid e1
      have E2 := hid e2
      clear e1 e2 ex
      by_cases hy : k < ys.length
      · rcases y4 with rfl | ⟨b2, off2, rfl, y4⟩
        · simp at hy
        obtain ⟨f0, f1⟩ := y4.u32 hy
        rw [← hbw.cell (p := ⟨b2, off2 + k, none⟩) (hS _ y4.1)] at f0
        have ey := hid (show ys.getD k 0 = ys[k] by simp [List.getD, hy])
        obtain ⟨d, hd⟩ : ∃ d : Nat, (d : Int) = ((xs[k] : Int) - (ys[k] : Int) - (c' : Int)) % 4294967296 := ⟨(((xs[k] : Int) - (ys[k] : Int) - (c' : Int)) % 4294967296).toNat, by omega⟩
        obtain ⟨e, he⟩ : ∃ e : Nat, (e : Int) = cD (xs[k] : Int) (ys[k] : Int) (c' : Int) := ⟨(cD (xs[k] : Int) (ys[k] : Int) (c' : Int)).toNat, by have := dp (xs[k] : Int) (ys[k] : Int) (c' : Int); omega⟩
        have hde : d + ys[k] + c' = xs[k] + 4294967296 * e := by unfold cD at he; split at he <;> omega
        have hd1 : d < 4294967296 := by omega
        have he1 : e ≤ 1 := by have := dp (xs[k] : Int) (ys[k] : Int) (c' : Int); omega
        have HA := hid (iz (xs[k] : Int) (ys[k] : Int) (c' : Int) wr (by omega) (by omega) (by omega) (by omega) (by omega) (by omega))
        rw [← hd, ← he] at HA
        have HDE := hid hde
        clear hd he hde
        go_wp2_with fail
        refine Calls.mono HA.out ?_
        rintro e' w3 ⟨rfl, rfl⟩
        clear HA
        go_wp2
        go_roundw
        case rel =>
          refine ⟨k + 1, e, ds ++ [d], upd f k (.int .u32 d), by omega, by go_num, rfl, he1, hbw.setCell (Nat.le_refl _) _, by simpa using hsz, hown.set _ _, eW HL.out HF.out d, ?_, ?_, ?_⟩
          · show (ds ++ [d]).length = k + 1; simp [HL.out]
          · intro x hx; rcases List.mem_append.1 hx with h | h
            · exact HD.out x h
            simp at h; omega
          show ac (ds ++ [d]) + ac (ys.take (k + 1)) = _
          rw [aD, HL.out, E1.out, E2.out, ey.out, Nat.pow_succ, Nat.mul_assoc]
          have h1 := HV.out
          have h2 : 4294967296 ^ k * d + 4294967296 ^ k * ys[k] + 4294967296 ^ k * c' = 4294967296 ^ k * xs[k] + 4294967296 ^ k * (4294967296 * e) := by rw [← Nat.mul_add, ← Nat.mul_add, HDE.out, Nat.mul_add]
          omega
        case measure => simp [intOf]; omega
      have ey := hid (show ys.getD k 0 = 0 by simp [List.getD, List.getElem?_eq_none (by omega : ys.length ≤ k)])
      obtain ⟨d, hd⟩ : ∃ d : Nat, (d : Int) = ((xs[k] : Int) - 0 - (c' : Int)) % 4294967296 := ⟨(((xs[k] : Int) - 0 - (c' : Int)) % 4294967296).toNat, by omega⟩
      obtain ⟨e, he⟩ : ∃ e : Nat, (e : Int) = cD (xs[k] : Int) 0 (c' : Int) := ⟨(cD (xs[k] : Int) 0 (c' : Int)).toNat, by have := dp (xs[k] : Int) 0 (c' : Int); omega⟩
      have hde : d + c' = xs[k] + 4294967296 * e := by unfold cD at he; split at he <;> omega
      have hd1 : d < 4294967296 := by omega
      have he1 : e ≤ 1 := by have := dp (xs[k] : Int) 0 (c' : Int); omega
      have HA := hid (iz (xs[k] : Int) 0 (c' : Int) wr (by omega) (by omega) (by omega) (by omega) (by omega) (by omega))
      rw [← hd, ← he] at HA
      have HDE := hid hde
      clear hd he hde
      go_wp2_with fail
      refine Calls.mono HA.out ?_
      rintro e' w3 ⟨rfl, rfl⟩
      clear HA
      go_wp2
      go_roundw
      case rel =>
        refine ⟨k + 1, e, ds ++ [d], upd f k (.int .u32 d), by omega, by go_num, rfl, he1, hbw.setCell (Nat.le_refl _) _, by simpa using hsz, hown.set _ _, eW HL.out HF.out d, ?_, ?_, ?_⟩
        · show (ds ++ [d]).length = k + 1; simp [HL.out]
        · intro x hx; rcases List.mem_append.1 hx with h | h
          · exact HD.out x h
          simp at h; omega
        show ac (ds ++ [d]) + ac (ys.take (k + 1)) = _
        rw [aD, HL.out, E1.out, E2.out, ey.out, Nat.pow_succ, Nat.mul_assoc]
        have h1 := HV.out
        have h2 : 4294967296 ^ k * d + 4294967296 ^ k * c' = 4294967296 ^ k * xs[k] + 4294967296 ^ k * (4294967296 * e) := by rw [← Nat.mul_add, HDE.out, Nat.mul_add]
        omega
      case measure => simp [intOf]; omega
    have hk' : k = xs.length := by omega
    have hs : ac ds = x - y := by
      have h1 := HV.out
      rw [List.take_of_length_le (by omega), List.take_of_length_le (by omega), vx.out, vy.out] at h1
      have h2 := aP HD.out
      rw [HL.out] at h2
      have : c' = 0 ∨ c' = 1 := by omega
      rcases this with h | h
      · subst h; omega
      subst h; omega
    have hR := dv hown HF.out (by rw [HL.out, hk']) (by omega) HD.out
    have HT := hid (ga _ _ _ _ hR)
    rw [hs] at HT
    clear hs hk' hR
    go_wp2_with fail
    refine Calls.mono HT.out ?_
    rintro e' w3 ⟨r, rfl, rfl, hr⟩
    go_wp2
    go_ret
    exact ⟨_, rfl, hr, hbw⟩
theorem kb (a b:ByteArray) (w:World) (ha:a.size<=500000000000) (hb:b.size<=500000000000) (h:ah b<=ah a):
  Calls prog 151 #[.string a,.string b] w fun e w'=>e= .returned (.tuple #[.string (al (ah a-ah b)),.bool true])/\Below w.heap.size w w':=by
 have H1:=hid (cH a w (by omega));have la:=ce a;have hlen:(ae (ah a-ah b)).length<=500000000000:=by
  have:ah a-ah b<4294967296^(ae (ah a)).length:=by
   have:=aP (bd (ah a));rw [am] at this;omega
  have:=bS this;omega
 have hcmp:bj (ah a) (ah b)=0∨bj (ah a) (ah b)=1:=by
  unfold bj;rw [if_neg (by omega)];split<;>simp
 have HV:=hid (am (ah a-ah b));have HH:=hid h;go_enter func151,ntmps151
 go_wp2_with fail
 refine Calls.mono H1.out ?_;rintro e w1 ⟨p,rfl,hp,hb1⟩;go_wp2_with fail
 refine (cH b w1 (by omega)).mono ?_;rintro e w2 ⟨q,rfl,hq,hb2⟩;have hp2:=(aF aX).below hp hb2 hb2.size;clear hp;have hbel:=hb1.step hb2;go_wp2_with fail
 refine (eV _ _ _ _ _ _ (fun _ h=>h) hp2 hq).mono ?_;rintro e w3 ⟨rfl,hb3⟩;have hp3:=(aF aX).below hp2 hb3 hb3.size;have hq3:=(aF aX).below hq hb3 hb3.size;clear hp2 hq;have hc2:¬bj (ah a) (ah b)<0:=by omega
 have HC:=hid hcmp;clear hcmp;go_wp2_with fail
 refine (nq _ _ _ _ _ _ (fun _ h=>h) (by omega) HH.out hp3 hq3).mono ?_;rintro e w4 ⟨r,rfl,hr,hb4⟩;go_wp2_with fail
 refine (eU _ _ _ _ (fun _ h=>h) (by omega) hr).mono ?_;rintro e w5 ⟨rfl,hb5⟩;rw [HV.out];go_wp2
 go_ret2
 exact ⟨rfl,(hbel.step hb3).step (hb4.step hb5)⟩
theorem oO (a b:ByteArray) (w:World) (ha:a.size<=500000000000) (hb:b.size<=500000000000) (h:ah a<ah b):
  Calls prog 151 #[.string a,.string b] w fun e w'=>e= .returned (.tuple #[.string ⟨#[]⟩,.bool false])/\Below w.heap.size w w':=by
 have H1:=hid (cH a w (by omega));have hcmp:=eF h;go_enter func151,ntmps151
 go_wp2_with fail
 refine Calls.mono H1.out ?_;rintro e w1 ⟨p,rfl,hp,hb1⟩;go_wp2_with fail
 refine (cH b w1 (by omega)).mono ?_;rintro e w2 ⟨q,rfl,hq,hb2⟩;have hp2:=(aF aX).below hp hb2 hb2.size;clear hp;have hbel:=hb1.step hb2;go_wp2_with fail
 refine (eV _ _ _ _ _ _ (fun _ h=>h) hp2 hq).mono ?_;rintro e w3 ⟨rfl,hb3⟩;rw [hcmp];clear hp2 hq hcmp;go_wp2
 go_ret2
 exact ⟨rfl,hbel.step hb3⟩
theorem cU:∀(o:List Nat) (p d:Nat) (h:p<o.length),ac (o.set p d)+4294967296^p*o[p]=ac o+4294967296^p*d
 |x::r,0,d,_=>by simp [ac];omega
 |x::r,p+1,d,h=>by
  have ih:=cU r p d (by simpa using h);simp only [List.set_cons_succ,ac,List.getElem_cons_succ,Nat.pow_succ];rw [Nat.mul_comm (4294967296^p) 4294967296,Nat.mul_assoc,Nat.mul_assoc];omega
theorem jt {f:Nat->Value} {o:List Nat} {p:Nat} (hp:p<o.length) (h:∀j,f j= .int .u32 ((o.getD j 0:Nat):Int)) (d:Nat):∀j,upd f p (.int .u32 (d:Int)) j= .int .u32 (((o.set p d).getD j 0:Nat):Int):=by
 intro j;unfold upd;by_cases hj:j=p
 ·rw [if_pos hj,hj];simp [List.getD,hp]
 rw [if_neg hj,h j];simp [List.getD,show ¬p=j by omega]
theorem qy {u v:Nat} (hu:u<4294967296) (hv:v<4294967296):u*v<=18446744065119617025:=by
 have:=Nat.mul_le_mul (Nat.le_of_lt_succ hu:u<=4294967295) (Nat.le_of_lt_succ hv:v<=4294967295);exact this
theorem eh (a b : ByteArray) (w : World) (ha : a.size ≤ 500000000000) (hb : b.size ≤ 500000000000) :
    Calls prog 123 #[.string a, .string b] w fun e w' => e = .returned (.string (al (ah a * ah b))) ∧ Below w.heap.size w w' := by
  have la := ce a
  have lb := ce b
  have va := hid (am (ah a))
  have vb := hid (am (ah b))
  have H1 := hid (cH a w (by omega))
  go_enter func123, ntmps123
  go_wp2_with fail
  refine Calls.mono H1.out ?_
  rintro e w1 ⟨p, rfl, hp, hb1⟩
  go_wp2_with fail
  refine (cH b w1 (by omega)).mono ?_
  rintro e w2 ⟨q, rfl, hq, hb2⟩
  have hp2 := (aF aX).below hp hb2 hb2.size
  clear hp
  have hbel := hb1.step hb2
  obtain ⟨pa, pc, rfl, p1, p2, p3, p4⟩ := aM hp2
  obtain ⟨qa, qc, rfl, q1, q2, q3, q4⟩ := aM hq
  generalize ae (ah a) = xs at *
  generalize ae (ah b) = ys at *
  obtain ⟨n, hn⟩ : ∃ n : Nat, n = xs.length + ys.length := ⟨_, rfl⟩
  have hn1 : (xs.length : Int) + (ys.length : Int) = (n : Int) := by omega
  have hmk := fun (w : World) => cy (P := prog) underlying218 Tryz.infoU32 rfl w n (by omega) (by omega)
  have HN := hid hn
  clear hn
  have hxn : xs.length ≤ 9223372036854775807 := by omega
  have hyn : ys.length ≤ 9223372036854775807 := by omega
  go_wp2
  clear hmk hn1
  go_loopw [8, 9, 10, 11, 12, 13, 26] (fun _ _ _ _ _ _ i wr => ∃ (k : Nat) (o : List Nat) (f : Nat → Value), k ≤ xs.length ∧ i = .int .i64 k ∧ Below w.heap.size w wr ∧ w2.heap.size < wr.heap.size ∧ Below w2.heap.size w2 wr ∧ Own wr w2.heap.size 168 n f ∧ Hid (∀ j, f j = .int .u32 ((o.getD j 0 : Nat) : Int)) ∧ Hid (o.length = n) ∧ Hid (∀ x ∈ o, x < 4294967296) ∧
      Hid (ac o = ac (xs.take k) * ac ys) ∧ Hid (∀ j, k + ys.length ≤ j → o.getD j 0 = 0)) (fun _ _ _ _ _ _ i _ => xs.length - (intOf i).toNat)
  case atStart =>
    refine ⟨0, List.replicate n 0, _, Nat.zero_le _, rfl, hbel.alloc hbel.size _, by simp, (Below.refl _ _).alloc (Nat.le_refl _) _, Own.new _ _ _ _, fun j => ?_, by simp [Hid], fun x hx => ?_, ?_, fun j _ => ?_⟩
    · simp [List.getD, List.getElem?_replicate]; split <;> rfl
    · have := List.eq_of_mem_replicate hx; omega
    · show ac _ = ac (xs.take 0) * ac ys; rw [d9]; simp [ac]
    simp [List.getD, List.getElem?_replicate]; split <;> rfl
  case round =>
    obtain ⟨k, o, f, hk, rfl, hbw, hsz, hbw2, hown, HF, HL, HD, HV, HZ⟩ := hrel
    by_cases hlt : k < xs.length
    · rcases p4 with rfl | ⟨b1, off1, rfl, p4⟩
      · simp at hlt
      obtain ⟨g0, g1⟩ := p4.u32 hlt
      rw [← hbw2.cell (p := ⟨b1, off1 + k, none⟩) p4.1] at g0
      have hkn : k + ys.length < n := by have := HN.out; omega
      have HT := hid (br xs k hlt)
      obtain ⟨x, hx⟩ : ∃ x, x = xs[k] := ⟨_, rfl⟩
      rw [← hx] at g0 g1 HT
      clear hx
      have hkn' : (k : Int) < (n : Int) := by omega
      obtain ⟨wo, hwo⟩ : ∃ wo : World, wo = wr := ⟨_, rfl⟩
      subst hwo
      go_wp2
      go_loopw [10, 11, 12, 13, 33] (fun c _ _ _ i wr => ∃ (m c' : Nat) (o' : List Nat) (f : Nat → Value), m ≤ ys.length ∧ i = .int .i64 m ∧ c = .int .u64 (c' : Int) ∧ c' < 4294967296 ∧ Below w.heap.size w wr ∧ w2.heap.size < wr.heap.size ∧ Below w2.heap.size w2 wr ∧ Own wr w2.heap.size 168 n f ∧ Hid (∀ j, f j = .int .u32 ((o'.getD j 0 : Nat) : Int)) ∧ Hid (o'.length = n) ∧ Hid (∀ x ∈ o', x < 4294967296) ∧
        Hid (ac o' + 4294967296 ^ (k + m) * c' = ac (xs.take k) * ac ys + 4294967296 ^ k * (x * ac (ys.take m))) ∧ Hid (∀ j, k + ys.length ≤ j → o'.getD j 0 = 0)) (fun _ _ _ _ i _ => ys.length - (intOf i).toNat)
      case atStart => exact ⟨0, 0, o, f, Nat.zero_le _, rfl, rfl, by omega, hbw, hsz, hbw2, hown, HF, HL, HD, by simp [Hid, ac, HV.out], HZ⟩
      case round =>
        clear hown HF HL HD HV HZ hbw hbw2 hsz g0
        obtain ⟨m, c', o', f, hm, rfl, rfl, hc', hbw, hsz, hbw2, hown, HF, HL, HD, HV, HZ⟩ := hrel
        by_cases hmlt : m < ys.length
        · rcases q4 with rfl | ⟨b2, off2, rfl, q4⟩
          · simp at hmlt
          obtain ⟨f0, f1⟩ := q4.u32 hmlt
          rw [← hbw2.cell (p := ⟨b2, off2 + m, none⟩) q4.1] at f0
          have hp : k + m < n := by omega
          have HT2 := hid (br ys m hmlt)
          obtain ⟨y, hy⟩ : ∃ y, y = ys[m] := ⟨_, rfl⟩
          rw [← hy] at f0 f1 HT2
          clear hy
          have c1 := hown.cell hp
          rw [HF.out] at c1
          have hpo : k + m < o'.length := by rw [HL.out]; exact hp
          have eo : o'.getD (k + m) 0 = o'[k + m] := by simp [List.getD, hpo]
          have ho : o'[k + m] < 4294967296 := HD.out _ (List.getElem_mem hpo)
          have HS := hid (fun d => cU o' (k + m) d hpo)
          rw [eo] at c1
          obtain ⟨z, hz⟩ : ∃ z, z = o'[k + m] := ⟨_, rfl⟩
          rw [← hz] at c1 ho HS
          have c2 := hown.frozen (k + m)
          clear hz eo
          obtain ⟨d, hd⟩ : ∃ d : Nat, d = (x * y + z + c') % 4294967296 := ⟨_, rfl⟩
          obtain ⟨e, he⟩ : ∃ e : Nat, e = (x * y + z + c') / 4294967296 := ⟨_, rfl⟩
          have hmb := qy g1 f1
          have hde : d + 4294967296 * e = x * y + z + c' := by omega
          have hd1 : d < 4294967296 := by omega
          have he1 : e < 4294967296 := by omega
          have e1 : IntKind.u64.wrap ((x : Int) * (y : Int)) = (x : Int) * (y : Int) := IntWalk.u64_in _ (by rw [← Int.natCast_mul]; omega)
          have e2 : IntKind.u64.wrap ((x : Int) * (y : Int) + (z : Int)) = (x : Int) * (y : Int) + (z : Int) := IntWalk.u64_in _ (by rw [← Int.natCast_mul]; omega)
          have e3 : IntKind.u64.wrap ((x : Int) * (y : Int) + (z : Int) + (c' : Int)) = (x : Int) * (y : Int) + (z : Int) + (c' : Int) := IntWalk.u64_in _ (by rw [← Int.natCast_mul]; omega)
          have HDE := hid hde
          have Hd := hid (show ((x : Int) * (y : Int) + (z : Int) + (c' : Int)) % 4294967296 = (d : Int) by rw [← Int.natCast_mul]; omega)
          have He := hid (show ((x : Int) * (y : Int) + (z : Int) + (c' : Int)) / 4294967296 = (e : Int) by rw [← Int.natCast_mul]; omega)
          clear hmb hd he hde
          go_wp2
          clear e1 e2 e3
          go_roundw
          case rel =>
            rw [Hd.out, He.out]
            refine ⟨m + 1, e, o'.set (k + m) d, upd f (k + m) (.int .u32 d), by omega, by go_num, rfl, he1, hbw.setCell (p := ⟨w2.heap.size, _, none⟩) hbel.size _, by simpa using hsz, hbw2.setCell (Nat.le_refl _) _, hown.set _ _, jt hpo HF.out d, ?_, ?_, ?_, ?_⟩
            · show (o'.set (k + m) d).length = n; simp [HL.out]
            · intro u hu
              rcases List.mem_or_eq_of_mem_set hu with h | h
              · exact HD.out u h
              omega
            · show ac (o'.set (k + m) d) + 4294967296 ^ (k + (m + 1)) * e = _
              have h1 := HV.out
              have h2 := HS.out d
              rw [HT2.out, ← Nat.add_assoc k m 1, Nat.pow_succ, Nat.mul_assoc]
              have h3 : 4294967296 ^ (k + m) * d + 4294967296 ^ (k + m) * (4294967296 * e) = 4294967296 ^ (k + m) * (x * y) + 4294967296 ^ (k + m) * z + 4294967296 ^ (k + m) * c' := by rw [← Nat.mul_add, HDE.out, Nat.mul_add, Nat.mul_add]
              have h4 : 4294967296 ^ k * (x * (ac (ys.take m) + 4294967296 ^ m * y)) = 4294967296 ^ k * (x * ac (ys.take m)) + 4294967296 ^ (k + m) * (x * y) := by
                rw [Nat.mul_add, Nat.mul_add, Nat.pow_add, Nat.mul_assoc (4294967296 ^ k)]
                congr 2
                rw [Nat.mul_left_comm]
              rw [h4]
              omega
            intro j hj
            have := HZ.out j hj
            simpa [List.getD, List.getElem?_set, show ¬ k + m = j by omega] using this
          case measure => simp [intOf]; omega
        have hm' : m = ys.length := by omega
        have hp : k + ys.length < o'.length := by rw [HL.out]; exact hkn
        have c1 := hown.cell hkn
        rw [HF.out] at c1
        have c2 := hown.frozen (k + ys.length)
        have hV2 : ac (o'.set (k + ys.length) c') = ac (xs.take (k + 1)) * ac ys := by
          have h1 := HV.out
          have h2 := cU o' (k + ys.length) c' hp
          have h3 := HZ.out (k + ys.length) (Nat.le_refl _)
          simp only [List.getD, List.getElem?_eq_getElem hp, Option.getD_some] at h3
          rw [h3] at h2
          rw [hm', List.take_length] at h1
          rw [HT.out, Nat.add_mul, Nat.mul_assoc]
          omega
        have HV2 := hid hV2
        clear hV2 hm'
        go_wp2
        go_roundw
        case rel =>
          refine ⟨k + 1, o'.set (k + ys.length) c', upd f (k + ys.length) (.int .u32 c'), by omega, by go_num, hbw.setCell (p := ⟨w2.heap.size, _, none⟩) hbel.size _, by simpa using hsz, hbw2.setCell (Nat.le_refl _) _, hown.set _ _, jt hp HF.out c', ?_, ?_, HV2.out, ?_⟩
          · show (o'.set _ _).length = n; simp [HL.out]
          · intro u hu
            rcases List.mem_or_eq_of_mem_set hu with h | h
            · exact HD.out u h
            omega
          intro j hj
          have := HZ.out j (by omega)
          simpa [List.getD, List.getElem?_set, show ¬ k + ys.length = j by omega] using this
        case measure => simp [intOf]; omega
    have hs : ac o = ah a * ah b := by
      have h1 := HV.out
      rw [List.take_of_length_le (by omega), va.out, vb.out] at h1
      exact h1
    have HR := hid (eU _ _ o _ (fun _ h => h) (by rw [HL.out]; have := HN.out; omega) (dv hown HF.out HL.out (by have := HN.out; omega) HD.out))
    rw [hs] at HR
    clear hs
    go_wp2_with fail
    refine Calls.mono HR.out ?_
    rintro e' w3 ⟨rfl, hb3⟩
    go_wp2
    go_ret
    exact ⟨rfl, hbw.step hb3⟩
theorem fx (r x:Nat) (hr:r<4294967296) (hx:x<4294967296):bits .or .u64 ((r:Int)*4294967296) (x:Int)=((r*4294967296+x:Nat):Int):=by
 have e:(r:Int)*4294967296=((r*2^32:Nat):Int):=by rw [Int.natCast_mul];rfl
 rw [e,u64_or_nat _ _ (by omega) (by omega),Nat.or_comm,ni x r 32 (by omega)]
theorem kj (S : Nat → Prop) (u : Value) (xs : List Nat) (d : Nat) (w : World) (hS : ∀ b, S b → b < w.heap.size) (hl : xs.length ≤ 1000000000000) (hd0 : 0 < d) (hd : d < 4294967296) (hu : ax 1 bi w S [u] xs) :
    Calls prog 199 #[u, .int .u32 d] w fun e w' => ∃ r, e = .returned (.tuple #[r, .int .u32 ((ac xs % d : Nat) : Int)]) ∧ ax 1 bi w' (LT w'.heap.size) [r] (ae (ac xs / d)) ∧ Below w.heap.size w w' := by
  have hxlt := hid (eN hu)
  obtain ⟨xa, xc, rfl, x1, x2, x3, x4⟩ := aM hu
  have hn := dX x1 x2
  have hmk := fun (w : World) => cy (P := prog) underlying218 Tryz.infoU32 rfl w xs.length (by omega) (by omega)
  go_enter func199, ntmps199
  go_wp2
  clear hmk
  go_loopw [7, 8, 9] (fun r i _ wr => ∃ (k r' : Nat) (o : List Nat) (f : Nat → Value), k ≤ xs.length ∧ i = .int .i64 ((k : Int) - 1) ∧ r = .int .u64 (r' : Int) ∧ r' < d ∧ Below w.heap.size w wr ∧ w.heap.size < wr.heap.size ∧ Own wr w.heap.size 168 xs.length f ∧ Hid (∀ j, f j = .int .u32 ((o.getD j 0 : Nat) : Int)) ∧ Hid (o.length = xs.length) ∧ Hid (∀ x ∈ o, x < 4294967296) ∧
      Hid (ac (xs.drop k) = ac (o.drop k) * d + r')) (fun _ i _ _ => (intOf i + 1).toNat)
  case atStart =>
    refine ⟨xs.length, 0, List.replicate xs.length 0, _, Nat.le_refl _, rfl, rfl, hd0, (Below.refl _ _).alloc (Nat.le_refl _) _, by simp, Own.new _ _ _ _, fun j => ?_, by simp [Hid], fun x hx => ?_, ?_⟩
    · simp [List.getD, List.getElem?_replicate]; split <;> rfl
    · have := List.eq_of_mem_replicate hx; omega
    show ac (xs.drop xs.length) = _
    rw [List.drop_length, List.drop_of_length_le (by simp)]; simp [ac]
  case round =>
    obtain ⟨k, r', o, f, hk, rfl, rfl, hr', hbw, hsz, hown, HF, HL, HD, HV⟩ := hrel
    cases k with
    | zero =>
      have hs := HV.out
      rw [List.drop_zero, List.drop_zero] at hs
      have hq : ac o = ac xs / d := by rw [hs, Nat.mul_comm, Nat.mul_add_div hd0, Nat.div_eq_of_lt hr']; rfl
      have hrm : ac xs % d = r' := by rw [hs, Nat.mul_comm, Nat.mul_add_mod, Nat.mod_eq_of_lt hr']
      have hR := dv hown HF.out HL.out (by omega) HD.out
      have HT := hid (ga _ _ _ _ hR)
      rw [hq] at HT
      have HRM := hid hrm
      clear hs hq hR hrm
      have hr32 : r' < 4294967296 := by omega
      go_wp2_with fail
      refine Calls.mono HT.out ?_
      rintro e' w3 ⟨r, rfl, rfl, hr⟩
      go_wp2
      go_ret2
      exact ⟨r, by rw [HRM.out]; rfl, hr, hbw⟩
    | succ k =>
      rw [show (((k + 1 : Nat) : Int) - 1) = (k : Int) by omega]
      have hlt : k < xs.length := by omega
      rcases x4 with rfl | ⟨b1, off1, rfl, x4⟩
      · simp at hlt
      obtain ⟨g0, g1⟩ := x4.u32 hlt
      rw [← hbw.cell (p := ⟨b1, off1 + k, none⟩) (hS _ x4.1)] at g0
      have c1 := hown.cell hlt
      rw [HF.out k] at c1
      have c2 := hown.frozen k
      have hr32 : r' < 4294967296 := by omega
      obtain ⟨x, hx⟩ : ∃ x, x = xs[k] := ⟨_, rfl⟩
      have HX := hid (show ac (xs.drop k) = x + 4294967296 * ac (xs.drop (k + 1)) by rw [hx, List.drop_eq_getElem_cons hlt]; rfl)
      rw [← hx] at g0 g1
      clear hx
      have o1 := fx r' x hr32 g1
      obtain ⟨q, hq⟩ : ∃ q : Nat, q = (r' * 4294967296 + x) / d := ⟨_, rfl⟩
      obtain ⟨r2, hr2⟩ : ∃ r2 : Nat, r2 = (r' * 4294967296 + x) % d := ⟨_, rfl⟩
      have hqr : d * q + r2 = r' * 4294967296 + x := by rw [hq, hr2]; exact Nat.div_add_mod _ _
      have hr2d : r2 < d := by rw [hr2]; exact Nat.mod_lt _ hd0
      have hq32 : q < 4294967296 := by
        rw [hq]
        apply Nat.div_lt_of_lt_mul
        have := Nat.mul_le_mul_right 4294967296 (show r' + 1 ≤ d from hr')
        rw [Nat.add_mul] at this
        omega
      have Q1 := hid (show (((r' : Int) * 4294967296 + (x : Int)) / (d : Int)) % 4294967296 = (q : Int) by
        have : ((r' : Int) * 4294967296 + (x : Int)) / (d : Int) = (q : Int) := by rw [hq, Int.natCast_ediv, Int.natCast_add, Int.natCast_mul]; rfl
        rw [this]; omega)
      have Q2 := hid (show (((r' : Int) * 4294967296 + (x : Int)) % (d : Int)) = (r2 : Int) by rw [hr2, Int.natCast_emod, Int.natCast_add, Int.natCast_mul]; rfl)
      have HQR := hid hqr
      clear hq hr2 hqr
      go_wp2
      clear o1
      go_roundw
      case rel =>
        rw [Q1.out, Q2.out]
        have hko : k < o.length := by rw [HL.out]; exact hlt
        refine ⟨k, r2, o.set k q, upd f k (.int .u32 q), by omega, rfl, rfl, hr2d, hbw.setCell (Nat.le_refl _) _, by simpa using hsz, hown.set _ _, jt hko HF.out q, ?_, ?_, ?_⟩
        · show (o.set k q).length = _; simp [HL.out]
        · intro u hu
          rcases List.mem_or_eq_of_mem_set hu with h | h
          · exact HD.out u h
          omega
        show ac (xs.drop k) = ac ((o.set k q).drop k) * d + r2
        have e : (o.set k q).drop k = q :: o.drop (k + 1) := by
          rw [List.drop_eq_getElem_cons (by simpa using hko), List.drop_set_of_lt (by omega)]
          simp
        rw [HX.out, HV.out, e]
        show _ = (q + 4294967296 * ac (o.drop (k + 1))) * d + r2
        have h1 := HQR.out
        rw [Nat.add_mul, Nat.mul_add, Nat.mul_assoc 4294967296, Nat.mul_comm q d]
        omega
      case measure => simp [intOf]
theorem jP (S:Nat->Prop) (u v:Value) (x y:Nat) (w:World) (hS:∀b,S b->b<w.heap.size) (hu:ax 1 bi w S [u] (ae x)) (hv:ax 1 bi w S [v] (ae y)):
  Calls prog 92 #[u,v] w fun e w'=>e= .returned (.int .i64 (bj x y))/\Below w.heap.size w w':=by
 obtain ⟨a,cap,rfl,h1,h2,h3,h4⟩:=aM hu;obtain ⟨a',cap',rfl,h1',h2',h3',h4'⟩:=aM hv;have hn:=dX h1 h2;have hn':=dX h1' h2';rcases Nat.lt_trichotomy (ae x).length (ae y).length with hl|hl|hl
 ·have hR:=hid (eF (ef hl));have hl':((ae x).length !=(ae y).length)=true:=by simp;omega
  have hl2:¬(((ae x).length:Int)=((ae y).length:Int)):=by omega
  go_enter func92,ntmps92
  go_wp2
  go_ret
  exact ⟨bI hR.out.symm,Below.refl _ _⟩
 ·have HL:=hid hl;rw [←hl];clear hl;go_enter func92,ntmps92
  go_wp2
  go_loopw [5] (fun i wr=>∃k:Nat,k<=(ae x).length/\i= .int .i64 ((k:Int)-1)/\Below w.heap.size w wr/\Hid ((ae x).drop k=(ae y).drop k)) (fun i _=>(intOf i+1).toNat)
  case atStart=>exact ⟨_,Nat.le_refl _,rfl,Below.refl _ _,by show (ae x).drop (ae x).length=(ae y).drop (ae x).length;rw [List.drop_length,HL.out,List.drop_length]⟩
  case round=>
   obtain ⟨k,hk,rfl,hbel,HE⟩:=hrel;cases k with
   |zero=>
    have hxy:x=y:=by
     have:=HE.out;rw [List.drop_zero,List.drop_zero] at this;have:=congrArg ac this;rwa [am,am] at this
    have hR:Hid (bj x y=0):=by subst hxy;exact mz _
    clear hxy;go_wp2
    go_ret
    exact ⟨bI hR.out.symm,hbel⟩
   |succ k=>
    rw [show (((k+1:Nat):Int)-1)=(k:Int) by omega];have hlt:k<(ae x).length:=by omega
    have hlt':k<(ae y).length:=by have:=HL.out;omega
    rcases h4 with h4|⟨b,off,rfl,h4⟩
    ·rw [h4] at hlt;simp at hlt
    rcases h4' with h4'|⟨b',off',rfl,h4'⟩
    ·rw [h4'] at hlt';simp at hlt'
    obtain ⟨g0,g1⟩:=h4.u32 hlt;rw [←hbel.cell (p:=⟨b,off+k,none⟩) (hS _ h4.1)] at g0;obtain ⟨f0,f1⟩:=h4'.u32 hlt';rw [←hbel.cell (p:=⟨b',off'+k,none⟩) (hS _ h4'.1)] at f0;have HX:=hid (bd x);have HY:=hid (bd y);have HVX:=hid (am x);have HVY:=hid (am y);rcases Nat.lt_trichotomy (ae x)[k] (ae y)[k] with hc|hc|hc
    ·have hR:Hid (bj x y= -1):=eF (by rw [←HVX.out,←HVY.out];exact dJ HX.out HL.out k hlt hlt' HE.out hc);have q1:(((ae x)[k]:Int) !=((ae y)[k]:Int))=true:=by rw [bne_iff_ne];omega
     have q1':((ae x)[k] !=(ae y)[k])=true:=by rw [bne_iff_ne];omega
     go_wp2
     go_quiet (fail)
     go_wp2
     go_quiet (fail)
     go_wp2
     go_ret
     exact ⟨bI hR.out.symm,(hbel.drewN _).drewN _⟩
    ·have q1:(((ae x)[k]:Int) !=((ae y)[k]:Int))=false:=by simp [hc]
     have q1':((ae x)[k] !=(ae y)[k])=false:=by simp [hc]
     have HC:=hid hc;clear hc;go_wp2
     go_quiet (fail)
     go_wp2
     go_roundw
     case rel=>exact ⟨k,by omega,rfl,hbel.drewN _,by show (ae x).drop k=(ae y).drop k;rw [List.drop_eq_getElem_cons hlt,List.drop_eq_getElem_cons hlt',HC.out,HE.out]⟩
     case measure=>simp [intOf]
    have hR:Hid (bj x y=1):=iy (by rw [←HVX.out,←HVY.out];exact dJ HY.out HL.out.symm k hlt' hlt HE.out.symm hc);have q1:(((ae x)[k]:Int) !=((ae y)[k]:Int))=true:=by rw [bne_iff_ne];omega
    have q1':((ae x)[k] !=(ae y)[k])=true:=by rw [bne_iff_ne];omega
    have q2:¬(ae x)[k]<(ae y)[k]:=by omega
    go_wp2
    go_quiet (fail)
    go_wp2
    go_quiet (fail)
    go_wp2
    go_ret
    exact ⟨bI hR.out.symm,(hbel.drewN _).drewN _⟩
 have hR:=hid (iy (ef hl));have hl':((ae x).length !=(ae y).length)=true:=by simp;omega
 have hl2:¬(((ae x).length:Int)=((ae y).length:Int)):=by omega
 go_enter func92,ntmps92
 go_wp2
 go_ret
 exact ⟨bI hR.out.symm,Below.refl _ _⟩
theorem tb (S : Nat → Prop) (u : Value) (xs : List Nat) (d : Nat) (w : World) (hS : ∀ b, S b → b < w.heap.size) (hl : xs.length ≤ 1000000000000) (hd0 : 0 < d) (hd : d < 4294967296) (hu : ax 1 bi w S [u] xs) :
    Calls prog 164 #[u, .int .u32 d] w fun e w' => ∃ r, e = .returned (.tuple #[r, .int .u32 ((ac xs % d : Nat) : Int)]) ∧ ax 1 bi w' (LT w'.heap.size) [r] (ae (ac xs / d)) ∧ Below w.heap.size w w' := by
  have hxlt := hid (eN hu)
  obtain ⟨xa, xc, rfl, x1, x2, x3, x4⟩ := aM hu
  have hn := dX x1 x2
  have hmk := fun (w : World) => cy (P := prog) underlying150 Tryz.infoU32 rfl w xs.length (by omega) (by omega)
  go_enter func164, ntmps164
  go_wp2
  clear hmk
  go_loopw [7, 8] (fun r i wr => ∃ (k r' : Nat) (o : List Nat) (f : Nat → Value), k ≤ xs.length ∧ i = .int .i64 ((k : Int) - 1) ∧ r = .int .u64 (r' : Int) ∧ r' < d ∧ Below w.heap.size w wr ∧ w.heap.size < wr.heap.size ∧ Own wr w.heap.size 168 xs.length f ∧ Hid (∀ j, f j = .int .u32 ((o.getD j 0 : Nat) : Int)) ∧ Hid (o.length = xs.length) ∧ Hid (∀ x ∈ o, x < 4294967296) ∧
      Hid (ac (xs.drop k) = ac (o.drop k) * d + r')) (fun _ i _ => (intOf i + 1).toNat)
  case atStart =>
    refine ⟨xs.length, 0, List.replicate xs.length 0, _, Nat.le_refl _, rfl, rfl, hd0, (Below.refl _ _).alloc (Nat.le_refl _) _, by simp, Own.new _ _ _ _, fun j => ?_, by simp [Hid], fun x hx => ?_, ?_⟩
    · simp [List.getD, List.getElem?_replicate]; split <;> rfl
    · have := List.eq_of_mem_replicate hx; omega
    show ac (xs.drop xs.length) = _
    rw [List.drop_length, List.drop_of_length_le (by simp)]; simp [ac]
  case round =>
    obtain ⟨k, r', o, f, hk, rfl, rfl, hr', hbw, hsz, hown, HF, HL, HD, HV⟩ := hrel
    cases k with
    | zero =>
      have hs := HV.out
      rw [List.drop_zero, List.drop_zero] at hs
      have hq : ac o = ac xs / d := by rw [hs, Nat.mul_comm, Nat.mul_add_div hd0, Nat.div_eq_of_lt hr']; rfl
      have hrm : ac xs % d = r' := by rw [hs, Nat.mul_comm, Nat.mul_add_mod, Nat.mod_eq_of_lt hr']
      have hR := dv hown HF.out HL.out (by omega) HD.out
      have HT := hid (ge _ _ _ _ hR)
      rw [hq] at HT
      have HRM := hid hrm
      clear hs hq hR hrm
      have hr32 : r' < 4294967296 := by omega
      go_wp2_with fail
      refine Calls.mono HT.out ?_
      rintro e' w3 ⟨r, rfl, rfl, hr⟩
      go_wp2
      go_ret2
      exact ⟨r, by rw [HRM.out]; rfl, hr, hbw⟩
    | succ k =>
      rw [show (((k + 1 : Nat) : Int) - 1) = (k : Int) by omega]
      have hlt : k < xs.length := by omega
      rcases x4 with rfl | ⟨b1, off1, rfl, x4⟩
      · simp at hlt
      obtain ⟨g0, g1⟩ := x4.u32 hlt
      rw [← hbw.cell (p := ⟨b1, off1 + k, none⟩) (hS _ x4.1)] at g0
      have c1 := hown.cell hlt
      rw [HF.out k] at c1
      have c2 := hown.frozen k
      have hr32 : r' < 4294967296 := by omega
      obtain ⟨x, hx⟩ : ∃ x, x = xs[k] := ⟨_, rfl⟩
      have HX := hid (show ac (xs.drop k) = x + 4294967296 * ac (xs.drop (k + 1)) by rw [hx, List.drop_eq_getElem_cons hlt]; rfl)
      rw [← hx] at g0 g1
      clear hx
      have o1 := fx r' x hr32 g1
      obtain ⟨q, hq⟩ : ∃ q : Nat, q = (r' * 4294967296 + x) / d := ⟨_, rfl⟩
      obtain ⟨r2, hr2⟩ : ∃ r2 : Nat, r2 = (r' * 4294967296 + x) % d := ⟨_, rfl⟩
      have hqr : d * q + r2 = r' * 4294967296 + x := by rw [hq, hr2]; exact Nat.div_add_mod _ _
      have hr2d : r2 < d := by rw [hr2]; exact Nat.mod_lt _ hd0
      have hq32 : q < 4294967296 := by
        rw [hq]
        apply Nat.div_lt_of_lt_mul
        have := Nat.mul_le_mul_right 4294967296 (show r' + 1 ≤ d from hr')
        rw [Nat.add_mul] at this
        omega
      have Q1 := hid (show (((r' : Int) * 4294967296 + (x : Int)) / (d : Int)) % 4294967296 = (q : Int) by
        have : ((r' : Int) * 4294967296 + (x : Int)) / (d : Int) = (q : Int) := by rw [hq, Int.natCast_ediv, Int.natCast_add, Int.natCast_mul]; rfl
        rw [this]; omega)
      have Q2 := hid (show (((r' : Int) * 4294967296 + (x : Int)) % (d : Int)) = (r2 : Int) by rw [hr2, Int.natCast_emod, Int.natCast_add, Int.natCast_mul]; rfl)
      have HQR := hid hqr
      clear hq hr2 hqr
      go_wp2
      clear o1
      go_roundw
      case rel =>
        rw [Q1.out, Q2.out]
        have hko : k < o.length := by rw [HL.out]; exact hlt
        refine ⟨k, r2, o.set k q, upd f k (.int .u32 q), by omega, rfl, rfl, hr2d, hbw.setCell (Nat.le_refl _) _, by simpa using hsz, hown.set _ _, jt hko HF.out q, ?_, ?_, ?_⟩
        · show (o.set k q).length = _; simp [HL.out]
        · intro u hu
          rcases List.mem_or_eq_of_mem_set hu with h | h
          · exact HD.out u h
          omega
        show ac (xs.drop k) = ac ((o.set k q).drop k) * d + r2
        have e : (o.set k q).drop k = q :: o.drop (k + 1) := by
          rw [List.drop_eq_getElem_cons (by simpa using hko), List.drop_set_of_lt (by omega)]
          simp
        rw [HX.out, HV.out, e]
        show _ = (q + 4294967296 * ac (o.drop (k + 1))) * d + r2
        have h1 := HQR.out
        rw [Nat.add_mul, Nat.mul_add, Nat.mul_assoc 4294967296, Nat.mul_comm q d]
        omega
      case measure => simp [intOf]
end Go.Proofs.YtcgpghifhehlhaaGreatDoor
