/- Regions that draw their order where any number of operations may come up. No program in sight. -/
import Derived.Test.YtclkgcigacbmiaaGreatDoorDrawM
set_option linter.unusedVariables false
set_option linter.unusedSimpArgs false
set_option linter.unusedSectionVars false
namespace Go.Proofs.YtclkgcigacbmiaaGreatDoor
open Go Go.RowKit
inductive Sw where
 |nil:Sw
 |take:Nat->Sw->Sw
 |alt:Nat->Sw->Sw->Sw
 |none:Sw
def Sw.len:Sw->Nat
 | .nil=>0
 | .take _ r=>r.len+1
 | .alt _ r _=>r.len+1
 | .none=>0
def Sw.ids:Sw->List Nat
 | .alt i _ m=>i::m.ids
 |_=>[]
def Sw.same (n:Nat):Sw->Bool
 | .alt _ r m=>decide (r.len=n)&&m.same n
 | .none=>true
 |_=>false
section
variable {P : Program} {ops : Array Oper} {Q : Exit → Act → World → Prop} {md : Region.Mode} {F : Nat → Bool}
def eA (md:Region.Mode) (ops:Array Oper) (F:Nat->Bool):Sw->Bool->Array Bool->Bool
 | .nil,t,listed=>t&&(Region.ready md ops listed).isEmpty
 | .take i r,t,listed=>t&&(Region.ready md ops listed).contains i&&Region.free md ops listed i&&(lM ops i||mY md ops F listed i)&&eA md ops F r true (listed.setIfInBounds i true)
 | .alt i r m,t,listed=>(!t||(decide (Region.ready md ops listed=i::m.ids)&&m.same r.len))&&eA md ops F r true (listed.setIfInBounds i true)&&eA md ops F m false listed
 | .none,t,_=> !t
def wpW (P:Program) (ops:Array Oper) (Q:Exit->Act->World->Prop) (F:Nat->Bool):Sw->Act->World->Prop
 | .nil,a,w=>Q .normal a w
 | .take i r,a,w=>∃o v,ops[i]? =some o/\YieldsIf P ops (fun w'=>FL w w'∨reads o.op=false) o v a/\wpW P ops Q F r (a.put o.dst v) w
 | .alt i r m,a,w=>wpOp P ops Q i (fun a' w'=>(F i=true->FL w w')/\wpW P ops Q F r a' w') a w/\wpW P ops Q F m a w
 | .none,_,_=>True
theorem vu {a:Act} {w:World} {listed:Array Bool} {n:Nat}:∀{s:Sw} {j:Nat},j∈s.ids->eA md ops F s false listed=true->s.same n=true->wpW P ops Q F s a w->
  ∃r,wpOp P ops Q j (fun a' w'=>(F j=true->FL w w')/\wpW P ops Q F r a' w') a w/\eA md ops F r true (listed.setIfInBounds j true)=true/\r.len=n
 | .alt i r m,j,hj,hc,hs,hw=>by
  simp only [eA,Bool.not_false,Bool.true_or,Bool.true_and,Bool.and_eq_true] at hc;simp only [Sw.same,Bool.and_eq_true,decide_eq_true_eq] at hs;rcases List.mem_cons.1 hj with rfl|hj
  ·exact ⟨r,hw.1,hc.1,hs.1⟩
  exact vu hj hc.2 hs.2 hw.2
 | .nil,_,hj,_,_,_=>by cases hj
 | .take _ _,_,hj,_,_,_=>by cases hj
 | .none,_,hj,_,_,_=>by cases hj
theorem qQ (hs:Region.noSelect ops=true) (hQ:∀c a d v w,Q (.panic c) (Act.put a d v) w->Q (.panic c) a w):∀(n:Nat) (s:Sw) (listed:Array Bool) (a:Act) (w:World),s.len=n->Closed md ops listed->eA md ops F s true listed=true->
  wpW P ops Q F s a w->wpD P md ops Q F s.len listed a w:=by
 intro n;induction n with
 |zero=>
  intro s listed a w hn hc hB h;cases s with
  |nil=>
   simp only [eA,Bool.true_and] at hB;exact ⟨by simpa using hB,h⟩
  |take i r=>simp [Sw.len] at hn
  |alt i r m=>simp [Sw.len] at hn
  |none=>simp [eA] at hB
 |succ n ih=>
  intro s listed a w hn hc hB h;cases s with
  |nil=>simp [Sw.len] at hn
  |none=>simp [eA] at hB
  |take i r=>
   simp only [Sw.len,Nat.add_right_cancel_iff] at hn;simp only [eA,Bool.true_and,Bool.and_eq_true] at hB;obtain ⟨⟨⟨h1,h2⟩,h3⟩,h4⟩:=hB;obtain ⟨o,v,ho,hy,hr⟩:=h;have hrd:i∈Region.ready md ops listed:=by simpa using h1
   have hnext:=ih r _ _ _ hn (hc.set hrd) h4 hr;rcases Bool.or_eq_true_iff.1 h3 with h3|h3
   ·have hp:reads o.op=false:=by simpa [lM,ho] using h3
    exact iP ho (Region.noSelect_spec hs) (fun c a w=>hQ c a o.dst v w) r.len listed a w hc (Region.free_spec ho h2) hrd (bK (fun w' _=> .inr hp) hy) hnext
   refine j0 (N:=ops.size) ho (Region.noSelect_spec hs) (fun c a w=>hQ c a o.dst v w) r.len listed a w hc (Region.free_spec ho h2) (fun j oj hj hne hun=>?_) hrd (bK (fun w' hF=> .inl hF) hy) hnext;have hlt:j<ops.size:=(Array.getElem?_eq_some_iff.1 hj).1;have:=List.all_eq_true.1 h3 j (List.mem_range.2 hlt);simpa [hne,hun] using this
  |alt i r m=>
   simp only [Sw.len,Nat.add_right_cancel_iff] at hn;have hB0:=hB;simp only [eA,Bool.not_true,Bool.false_or,Bool.and_eq_true,decide_eq_true_eq] at hB;obtain ⟨⟨⟨h1,h2⟩,h3⟩,h4⟩:=hB;refine ⟨fun h0=>(by rw [h1] at h0;cases h0),fun j hj=>?_⟩;have hj':=hj;rw [h1] at hj;have hcf:eA md ops F (.alt i r m) false listed=true:=by
    simp only [eA,Bool.not_false,Bool.true_or,Bool.true_and,Bool.and_eq_true];exact ⟨h3,h4⟩
   obtain ⟨r',k1,k2,k3⟩:=vu (s:= .alt i r m) (n:=r.len) hj hcf (by simp [Sw.same,h2]) h;refine wpOp_mono (fun a' w' h'=>⟨h'.1,?_⟩) k1;rw [←k3];exact ih r' _ a' w' (k3.trans hn) (hc.set hj') k2 h'.2
theorem eM {id:Nat} {a:Act} {w:World} (hm:P.follows .mixedOrders=true) (s:Sw) (F:Nat->Bool)
  (hB:(Region.noSelect ops&&decide (s.len=ops.size)&&eA .any ops F s true (Array.replicate ops.size false))=true)
  (hQ:∀c a d v w,Q (.panic c) (Act.put a d v) w->Q (.panic c) a w) (h:wpW P ops Q F s a w.drew):(Code.region id ops true).wp P Q a w:=by
 simp only [Bool.and_eq_true,decide_eq_true_eq] at hB;obtain ⟨⟨h1,h2⟩,h3⟩:=hB;refine wp_region_any hm (fA (F:=F) _ _ _ _ ?_);rw [←h2];have:=qQ (P:=P) (md:= .any) h1 hQ s.len s (Array.replicate ops.size false) a w.drew rfl Closed.start h3 h;rw [←h2] at this;exact this
end
end Go.Proofs.YtclkgcigacbmiaaGreatDoor
