/- Regions that draw their order, by a schedule: operations that neither write nor make memory are taken ahead of those that only make memory; the last ones come in one order. No program in sight. -/
import Derived.OrdersHeld
import Derived.Below
import Derived.Test.YtclkgcigacbmiaaGreatDoorBaseM
set_option linter.unusedVariables false
set_option linter.unusedSimpArgs false
set_option linter.unusedSectionVars false
namespace Go.Proofs.YtclkgcigacbmiaaGreatDoor
open Go Go.RowKit
def FL (w w':World):Prop:=w.heap.size<=w'.heap.size/\∀b,b<w.heap.size->w'.heap[b]? =w.heap[b]?
theorem FL.refl (w:World):FL w w:=⟨Nat.le_refl _,fun _ _=>rfl⟩
theorem FL.trans {a b c:World} (h:FL a b) (k:FL b c):FL a c:=⟨Nat.le_trans h.1 k.1,fun i hi=>(k.2 i (Nat.lt_of_lt_of_le hi h.1)).trans (h.2 i hi)⟩
theorem FL.of_below {w w':World} (h:Below w.heap.size w w'):FL w w':=⟨h.size,fun b hb=>h.block b hb⟩
theorem FL.cell {w w':World} {p:Addr} (h:FL w w') (hc:(w.cell? p).isSome=true):w'.cell? p=w.cell? p:=by
 have hb:p.block<w.heap.size:=by
  unfold World.cell? at hc;rcases Nat.lt_or_ge p.block w.heap.size with h|h
  ·exact h
  simp [Array.getElem?_eq_none h] at hc
 unfold World.cell?;rw [h.2 _ hb]
theorem FL.alloc (w:World) (o:Obj):FL w (w.alloc o):=FL.of_below ((Below.refl _ _).alloc (Nat.le_refl _) _)
section
variable {P : Program} {ops : Array Oper} {Q : Exit → Act → World → Prop} {md : Region.Mode} {F : Nat → Bool}
def wpD (P:Program) (md:Region.Mode) (ops:Array Oper) (Q:Exit->Act->World->Prop) (F:Nat->Bool):Nat->Array Bool->Act->World->Prop
 |0,listed,a,w=>Region.ready md ops listed=[]/\Q .normal a w
 |fuel+1,listed,a,w=>
  (Region.ready md ops listed=[]->Q .normal a w)/\
  ∀i∈Region.ready md ops listed,wpOp P ops Q i (fun a' w'=>(F i=true->FL w w')/\wpD P md ops Q F fuel (listed.setIfInBounds i true) a' w') a w
theorem fA:∀(fuel:Nat) (listed:Array Bool) (a:Act) (w:World),wpD P md ops Q F fuel listed a w->wpAny P md ops Q fuel listed a w
 |0,_,_,_,h=>h
 |fuel+1,_,_,_,h=>⟨h.1,fun i hi=>wpOp_mono (fun a' w' h'=>fA fuel _ a' w' h'.2) (h.2 i hi)⟩
theorem bK {S S':World->Prop} {o:Oper} {v:Value} {a:Act} (hs:∀w,S' w->S w) (h:YieldsIf P ops S o v a):YieldsIf P ops S' o v a:=
 h.imp (fun ⟨h1,h2⟩=>⟨h1,fun w hw=>h2 w (hs w hw)⟩) id
def cS (md:Region.Mode) (ops:Array Oper) (i:Nat):Nat->Nat->Bool
 |0,_=>false
 |n+1,j=>match ops[j]? with
  |none=>false
  |some o=>o.after.any fun e=>Region.binds md e&&(e.on==i||cS md ops i n e.on)
def Closed (md:Region.Mode) (ops:Array Oper) (listed:Array Bool):Prop:=
 listed.size=ops.size/\∀(k:Nat) (o:Oper),ops[k]? =some o->listed.getD k false=true->∀e∈o.after,Region.binds md e=true->listed.getD e.on false=true
theorem Closed.start:Closed md ops (Array.replicate ops.size false):=by
 refine ⟨by simp,fun k o _ h=>?_⟩;by_cases hk:k<ops.size<;>simp [hk] at h
theorem Closed.set {i:Nat} {listed:Array Bool} (h:Closed md ops listed) (hr:i∈Region.ready md ops listed):Closed md ops (listed.setIfInBounds i true):=by
 refine ⟨by simpa using h.1,fun k o ho hl e he hb=>?_⟩;by_cases hk:k=i
 ·subst hk;obtain ⟨_,o',ho',hall⟩:=mem_ready.1 hr;obtain rfl:o'=o:=Option.some.inj (ho'.symm.trans ho);exact getD_set_true (hall e he hb)
 rw [getD_set_ne false (fun e=>hk e.symm)] at hl;exact getD_set_true (h.2 k o ho hl e he hb)
theorem iO {i:Nat} {listed:Array Bool} (hc:Closed md ops listed):∀(n j:Nat),listed.getD j false=true->cS md ops i n j=true->listed.getD i false=true:=by
 intro n;induction n with
 |zero=>intro j _ h;simp [cS] at h
 |succ n ih=>
  intro j hj h;unfold cS at h;split at h
  ·cases h
  rename_i o ho;obtain ⟨e,he,h⟩:=Array.any_eq_true'.1 h;simp only [Bool.and_eq_true,Bool.or_eq_true,beq_iff_eq] at h;have hl:=hc.2 j o ho hj e he h.1;rcases h.2 with h2|h2
  ·rw [←h2];exact hl
  exact ih _ hl h2
theorem jN {i:Nat} {listed:Array Bool} (hc:Closed md ops listed) (n j:Nat) (hj:j∈Region.ready md ops listed) (h:cS md ops i n j=true):listed.getD i false=true:=by
 obtain ⟨_,o,ho,hall⟩:=mem_ready.1 hj;cases n with
 |zero=>simp [cS] at h
 |succ n=>
  unfold cS at h;simp only [ho] at h;obtain ⟨e,he,h⟩:=Array.any_eq_true'.1 h;simp only [Bool.and_eq_true,Bool.or_eq_true,beq_iff_eq] at h;have hl:=hall e he h.1;rcases h.2 with h2|h2
  ·rw [←h2];exact hl
  exact iO hc n _ hl h2
theorem fB {listed:Array Bool} {i:Nat} (h:listed.getD i true=false) (h':listed.getD i false=true):False:=by
 rcases Nat.lt_or_ge i listed.size with hi|hi
 ·simp [hi] at h h';rw [h] at h';cases h'
 simp [hi] at h
def mY (md:Region.Mode) (ops:Array Oper) (F:Nat->Bool) (listed:Array Bool) (i:Nat):Bool:=
 (List.range ops.size).all fun j=>j==i||listed.getD j true||F j||cS md ops i ops.size j
theorem j0 {i N:Nat} {oi:Oper} {v:Value} (hi:ops[i]? =some oi) (hsel:∀(j:Nat) (o:Oper) cs b,ops[j]? =some o->o.op≠ .select cs b)
  (hQ:∀c a w,Q (.panic c) (a.put oi.dst v) w->Q (.panic c) a w):
  ∀(fuel:Nat) (listed:Array Bool) (a:Act) (w:World),Closed md ops listed->
   (∀j oj,ops[j]? =some oj->j≠i->listed.getD j true=false->(∀e∈oj.after,Region.binds md e=true->e.on≠i)->oi.apart ops oj=true)->
   (∀j oj,ops[j]? =some oj->j≠i->listed.getD j true=false->F j=true∨cS md ops i N j=true)->
   i∈Region.ready md ops listed->YieldsIf P ops (FL w) oi v a->
   wpD P md ops Q F fuel (listed.setIfInBounds i true) (a.put oi.dst v) w->wpD P md ops Q F (fuel+1) listed a w:=by
 intro fuel;induction fuel with
 |zero=>
  intro listed a w _ _ _ hr hy H;refine ⟨fun h=>(by rw [h] at hr;cases hr),fun j hj=>?_⟩;by_cases hji:j=i
  ·subst hji;exact hy.wpOp hi (FL.refl w) ⟨fun _=>FL.refl w,H⟩
  have:=ready_mono hj hji;rw [H.1] at this;cases this
 |succ fuel ih=>
  intro listed a w hc hfree hearly hr hy H;refine ⟨fun h=>(by rw [h] at hr;cases hr),fun j hj=>?_⟩;by_cases hji:j=i
  ·subst hji;exact hy.wpOp hi (FL.refl w) ⟨fun _=>FL.refl w,H⟩
  have h1:=H.2 j (ready_mono hj hji);obtain ⟨hjun,oj,hoj,hall⟩:=mem_ready.1 hj;have hnot:∀e∈oj.after,Region.binds md e=true->e.on≠i:=fun e he hb heq=>by
   have h1:=hall e he hb;rw [heq] at h1;exact fB (mem_ready.1 hr).1 h1
  have hF:F j=true:=by
   rcases hearly j oj hoj hji hjun with h|h
   ·exact h
   exact (fB (mem_ready.1 hr).1 (jN hc _ _ hj h)).elim
  have h2:=wpOp_putIf hoj (hfree j oj hoj hji hjun hnot) (fun cs b=>hsel i oi cs b hi) (fun cs b=>hsel j oj cs b hoj) hQ hy h1;have sub:∀k,(listed.setIfInBounds j true).getD k true=false->listed.getD k true=false:=fun k h=>by
   by_cases hjk:j=k
   ·subst hjk;exact hjun
   rw [getD_set_ne true hjk] at h;exact h
  refine wpOp_mono (fun a' w' h3=>⟨h3.2.1,ih (listed.setIfInBounds j true) a' w' (hc.set hj) (fun k ok hk hki hun hno=>hfree k ok hk hki (sub k hun) hno) (fun k ok hk hki hun=>hearly k ok hk hki (sub k hun)) (ready_mono hr (Ne.symm hji)) (bK (fun _ h=>(h3.2.1 hF).trans h) h3.1) ?_⟩) h2;rw [Array.setIfInBounds_comm _ _ hji];exact h3.2.2
end
inductive Sch where
 |nil:Sch
 |cons:Nat->Bool->Sch->Sch
 |two:Nat->Nat->Sch->Sch->Sch
def Sch.len:Sch->Nat
 | .nil=>0
 | .cons _ _ r=>r.len+1
 | .two _ _ r _=>r.len+1
section
variable {P : Program} {ops : Array Oper} {Q : Exit → Act → World → Prop} {md : Region.Mode} {F : Nat → Bool}
def Sch.seq:Nat->Nat->Sch
 |_,0=> .nil
 |k,n+1=> .cons k false (Sch.seq (k+1) n)
end
def reads:Op->Bool
 | .load .. =>true
 | .lookup .. =>true
 | .index .. =>true
 | .call .. =>true
 |_=>false
section
variable {P : Program} {ops : Array Oper} {Q : Exit → Act → World → Prop} {md : Region.Mode} {F : Nat → Bool}
def lM (ops:Array Oper) (i:Nat):Bool:=match ops[i]? with
 |some o=> !(reads o.op)
 |none=>false
def cM (md:Region.Mode) (ops:Array Oper) (F:Nat->Bool):Sch->Array Bool->Bool
 | .nil,listed=>(Region.ready md ops listed).isEmpty
 | .cons i true r,listed=>(Region.ready md ops listed).contains i&&Region.free md ops listed i&&(lM ops i||mY md ops F listed i)&&cM md ops F r (listed.setIfInBounds i true)
 | .cons i false r,listed=>decide (Region.ready md ops listed=[i])&&cM md ops F r (listed.setIfInBounds i true)
 | .two i j r s,listed=>decide (Region.ready md ops listed=[i,j])&&decide (r.len=s.len)&&cM md ops F r (listed.setIfInBounds i true)&&cM md ops F s (listed.setIfInBounds j true)
def wpP (P:Program) (ops:Array Oper) (Q:Exit->Act->World->Prop) (F:Nat->Bool):Sch->Act->World->Prop
 | .nil,a,w=>Q .normal a w
 | .cons i true r,a,w=>∃o v,ops[i]? =some o/\YieldsIf P ops (fun w'=>FL w w'∨reads o.op=false) o v a/\wpP P ops Q F r (a.put o.dst v) w
 | .cons i false r,a,w=>wpOp P ops Q i (fun a' w'=>(F i=true->FL w w')/\wpP P ops Q F r a' w') a w
 | .two i j r s,a,w=>wpOp P ops Q i (fun a' w'=>(F i=true->FL w w')/\wpP P ops Q F r a' w') a w/\wpOp P ops Q j (fun a' w'=>(F j=true->FL w w')/\wpP P ops Q F s a' w') a w
theorem iP {i:Nat} {oi:Oper} {v:Value} (hi:ops[i]? =some oi) (hsel:∀(j:Nat) (o:Oper) cs b,ops[j]? =some o->o.op≠ .select cs b)
  (hQ:∀c a w,Q (.panic c) (a.put oi.dst v) w->Q (.panic c) a w):
  ∀(fuel:Nat) (listed:Array Bool) (a:Act) (w:World),Closed md ops listed->
   (∀j oj,ops[j]? =some oj->j≠i->listed.getD j true=false->(∀e∈oj.after,Region.binds md e=true->e.on≠i)->oi.apart ops oj=true)->
   i∈Region.ready md ops listed->YieldsIf P ops (fun _=>True) oi v a->
   wpD P md ops Q F fuel (listed.setIfInBounds i true) (a.put oi.dst v) w->wpD P md ops Q F (fuel+1) listed a w:=by
 intro fuel;induction fuel with
 |zero=>
  intro listed a w _ _ hr hy H;refine ⟨fun h=>(by rw [h] at hr;cases hr),fun j hj=>?_⟩;by_cases hji:j=i
  ·subst hji;exact hy.wpOp hi trivial ⟨fun _=>FL.refl w,H⟩
  have:=ready_mono hj hji;rw [H.1] at this;cases this
 |succ fuel ih=>
  intro listed a w hc hfree hr hy H;refine ⟨fun h=>(by rw [h] at hr;cases hr),fun j hj=>?_⟩;by_cases hji:j=i
  ·subst hji;exact hy.wpOp hi trivial ⟨fun _=>FL.refl w,H⟩
  have h1:=H.2 j (ready_mono hj hji);obtain ⟨hjun,oj,hoj,hall⟩:=mem_ready.1 hj;have hnot:∀e∈oj.after,Region.binds md e=true->e.on≠i:=fun e he hb heq=>by
   have h1:=hall e he hb;rw [heq] at h1;exact fB (mem_ready.1 hr).1 h1
  have h2:=wpOp_putIf hoj (hfree j oj hoj hji hjun hnot) (fun cs b=>hsel i oi cs b hi) (fun cs b=>hsel j oj cs b hoj) hQ hy h1;have sub:∀k,(listed.setIfInBounds j true).getD k true=false->listed.getD k true=false:=fun k h=>by
   by_cases hjk:j=k
   ·subst hjk;exact hjun
   rw [getD_set_ne true hjk] at h;exact h
  refine wpOp_mono (fun a' w' h3=>⟨h3.2.1,ih (listed.setIfInBounds j true) a' w' (hc.set hj) (fun k ok hk hki hun hno=>hfree k ok hk hki (sub k hun) hno) (ready_mono hr (Ne.symm hji)) (bK (fun _ h=>trivial) h3.1) ?_⟩) h2;rw [Array.setIfInBounds_comm _ _ hji];exact h3.2.2
theorem dJ (hs:Region.noSelect ops=true) (hQ:∀c a d v w,Q (.panic c) (Act.put a d v) w->Q (.panic c) a w):∀(s:Sch) (listed:Array Bool) (a:Act) (w:World),Closed md ops listed->cM md ops F s listed=true->
  wpP P ops Q F s a w->wpD P md ops Q F s.len listed a w
 | .nil,listed,a,w,_,hB,h=>⟨by simpa [cM] using hB,h⟩
 | .cons i true r,listed,a,w,hc,hB,h=>by
  simp only [cM,Bool.and_eq_true] at hB;obtain ⟨⟨⟨h1,h2⟩,h3⟩,h4⟩:=hB;obtain ⟨o,v,ho,hy,hr⟩:=h;have hrd:i∈Region.ready md ops listed:=by simpa using h1
  rcases Bool.or_eq_true_iff.1 h3 with h3|h3
  ·have hp:reads o.op=false:=by simpa [lM,ho] using h3
   exact iP ho (Region.noSelect_spec hs) (fun c a w=>hQ c a o.dst v w) r.len listed a w hc (Region.free_spec ho h2) hrd (bK (fun w' _=> .inr hp) hy) (dJ hs hQ r _ _ _ (hc.set hrd) h4 hr)
  refine j0 (N:=ops.size) ho (Region.noSelect_spec hs) (fun c a w=>hQ c a o.dst v w) r.len listed a w hc (Region.free_spec ho h2) (fun j oj hj hne hun=>?_) hrd (bK (fun w' hF=> .inl hF) hy) (dJ hs hQ r _ _ _ (hc.set hrd) h4 hr);have hlt:j<ops.size:=(Array.getElem?_eq_some_iff.1 hj).1;have:=List.all_eq_true.1 h3 j (List.mem_range.2 hlt);simpa [hne,hun] using this
 | .cons i false r,listed,a,w,hc,hB,h=>by
  simp only [cM,Bool.and_eq_true,decide_eq_true_eq] at hB;refine ⟨fun h0=>(by rw [hB.1] at h0;cases h0),fun j hj=>?_⟩;have hj':=hj;rw [hB.1] at hj;obtain rfl:j=i:=by simpa using hj
  exact wpOp_mono (fun a' w' h'=>⟨h'.1,dJ hs hQ r _ a' w' (hc.set hj') hB.2 h'.2⟩) h
 | .two i k r s,listed,a,w,hc,hB,h=>by
  simp only [cM,Bool.and_eq_true,decide_eq_true_eq] at hB;obtain ⟨⟨⟨h1,h2⟩,h3⟩,h4⟩:=hB;refine ⟨fun h0=>(by rw [h1] at h0;cases h0),fun j hj=>?_⟩;have hj':=hj;rw [h1] at hj;have hj2:j=i∨j=k:=by simpa using hj
  rcases hj2 with rfl|rfl
  ·exact wpOp_mono (fun a' w' h'=>⟨h'.1,dJ hs hQ r _ a' w' (hc.set hj') h3 h'.2⟩) h.1
  refine wpOp_mono (fun a' w' h'=>⟨h'.1,?_⟩) h.2;rw [h2];exact dJ hs hQ s _ a' w' (hc.set hj') h4 h'.2
theorem iQ {id:Nat} {a:Act} {w:World} (hm:P.follows .mixedOrders=true) (s:Sch) (F:Nat->Bool)
  (hB:(Region.noSelect ops&&decide (s.len=ops.size)&&cM .any ops F s (Array.replicate ops.size false))=true)
  (hQ:∀c a d v w,Q (.panic c) (Act.put a d v) w->Q (.panic c) a w) (h:wpP P ops Q F s a w.drew):(Code.region id ops true).wp P Q a w:=by
 simp only [Bool.and_eq_true,decide_eq_true_eq] at hB;obtain ⟨⟨h1,h2⟩,h3⟩:=hB;refine wp_region_any hm (fA (F:=F) _ _ _ _ ?_);rw [←h2];have:=dJ (P:=P) (md:= .any) h1 hQ s (Array.replicate ops.size false) a w.drew Closed.start h3 h;rw [←h2] at this;exact this
end
inductive C where
 |lit (v:Value)
 |sh (sz n:Nat) (cs:List C)
 |own (nm st n sz:Nat)
 |ptr (nm st off:Nat)
 |sp (cs:List C)
 |dead
 |vw (nm st off n sz:Nat)
 |clo (f:FuncId) (sh:List (Option Nat)) (cs:List C)
 |e0
deriving Inhabited
def shp:List (Option Nat)->List Value->List Value->Prop
 |[],[],us=>us=[]
 |none::s,v::vs,us=>∃us',us=v::us'/\shp s vs us'
 |some k::s,v::vs,us=>∃(l:List Value) (us':List Value),v= .agg l.toArray/\l.length=k/\us=l++us'/\shp s vs us'
 |_,_,_=>False
structure Blk where
 st:Nat
 E:TypeId
 sz:Nat
 n:Nat
 cs:List C
deriving Inhabited
def obk:Value->Option Nat
 | .slice (some a) _ _=>some a.block
 | .map (some r)=>some r
 |_=>none
theorem bO {v:Value} {b:Nat} (h:v.ownBlock=some b):obk v=some b:=by
 cases v with
 |slice a n c=>cases a<;>simp [Value.ownBlock] at h;subst h;rfl
 |_=>simp [Value.ownBlock] at h
structure Kx where
 base:Nat
 T:Nat->Prop
 w:World
 σ:Nat->Value
 H:Nat->Option Blk
 nx:Nat
def Kx.S (κ:Kx) (b:Nat):Prop:=(κ.T b∨κ.base<=b)/\b<κ.w.heap.size/\∀nm B,κ.H nm=some B->obk (κ.σ nm)≠some b
mutual
def den (κ:Kx) (v:Value):C->Prop
 | .lit x=>v=x/\x.oneCell'=true
 | .sh sz n cs=>∃a cap,v= .slice a n cap/\n<=cap/\cap<=maxLen/\(a=none->cap=0)/\cs.length=n*sz/\(n=0∨∃b off,a=some ⟨b,off,none⟩/\κ.S b/\denM κ b off cs)
 | .own nm st n sz=>v.oneCell'=true/\st<κ.nx/\∀B,κ.H nm=some B->B.st=st->v=κ.σ nm/\B.n=n/\B.sz=sz
 | .ptr nm st off=>v.oneCell'=true/\st<κ.nx/\∀B,κ.H nm=some B->B.st=st->∃b,(κ.σ nm).ownBlock=some b/\v= .pointer (some ⟨b,off,none⟩)
 | .sp cs=>∃b off,v= .pointer (some ⟨b,off,none⟩)/\κ.S b/\denM κ b off cs
 | .dead=>v.oneCell'=true
 | .vw nm st off n sz=>∃a cap,v= .slice a n cap/\n<=cap/\cap<=maxLen/\(a=none->cap=0)/\st<κ.nx/\∀B,κ.H nm=some B->B.st=st->B.sz=sz/\off+n<=B.n/\((off=0/\κ.σ nm= .slice a B.n cap)∨(off≠0/\(n=0∨∃b,(κ.σ nm).ownBlock=some b/\a=some ⟨b,off*sz,none⟩)))
 | .clo f sh cs=>∃(vs us:List Value),v= .func (.func f) #[] vs.toArray/\shp sh vs us/\fC κ us cs
 | .e0=>∃a,v= .slice a 0 0
def fC (κ:Kx) (us:List Value):List C->Prop
 |[]=>us=[]
 |c::cs=>∃u us',us=u::us'/\den κ u c/\fC κ us' cs
def denM (κ:Kx) (b off:Nat):List C->Prop
 |[]=>True
 |c::cs=>(∃u,κ.w.cell? ⟨b,off,none⟩=some u/\den κ u c)/\denM κ b (off+1) cs
end
theorem n7 {κ:Kx} {v:Value} {c:C} (h:den κ v c):v.oneCell'=true:=by
 cases c<;>simp only [den] at h
 ·rw [h.1];exact h.2
 ·obtain ⟨a,cap,rfl,_⟩:=h;rfl
 ·exact h.1
 ·exact h.1
 ·obtain ⟨b,off,rfl,_⟩:=h;rfl
 ·exact h
 ·obtain ⟨a,cap,rfl,_⟩:=h;rfl
 ·obtain ⟨vs,us,rfl,_⟩:=h;rfl
 obtain ⟨a,rfl⟩:=h;rfl
def denVs (κ:Kx):List Value->List C->Prop
 |[],[]=>True
 |v::vs,c::cs=>den κ v c/\denVs κ vs cs
 |_,_=>False
theorem denVs.length {κ:Kx}:∀{vs:List Value} {cs:List C},denVs κ vs cs->vs.length=cs.length
 |[],[],_=>rfl
 |_::_,_::_,h=>congrArg (·+1) (denVs.length h.2)
 |[],_::_,h=>h.elim
 |_::_,[],h=>h.elim
theorem denVs.get {κ:Kx}:∀{vs:List Value} {cs:List C} (_:denVs κ vs cs) (i:Nat) {c:C},cs[i]? =some c->∃v,vs[i]? =some v/\den κ v c
 |[],[],_,i,c,h=>by simp at h
 |v::_,_::_,h,0,c,hc=>by simp at hc;subst hc;exact ⟨v,rfl,h.1⟩
 |_::_,_::_,h,i+1,c,hc=>by simp at hc;simpa using denVs.get h.2 i hc
 |[],_::_,h,_,_,_=>h.elim
 |_::_,[],h,_,_,_=>h.elim
theorem denVs.one {κ:Kx}:∀{vs:List Value} {cs:List C},denVs κ vs cs->∀v∈vs,v.oneCell'=true
 |[],[],_,v,hv=>by simp at hv
 |u::vs,_::_,h,v,hv=>by
  rcases List.mem_cons.1 hv with rfl|hv
  ·exact n7 h.1
  exact denVs.one h.2 v hv
 |[],_::_,h,_,_=>h.elim
 |_::_,[],h,_,_=>h.elim
theorem denVs.append {κ:Kx}:∀{vs us:List Value} {cs ds:List C},denVs κ vs cs->denVs κ us ds->denVs κ (vs++us) (cs++ds)
 |[],_,[],_,_,h=>h
 |_::_,_,_::_,_,h,k=>⟨h.1,denVs.append h.2 k⟩
 |[],_,_::_,_,h,_=>h.elim
 |_::_,_,[],_,h,_=>h.elim
theorem denVs.drop {κ:Kx}:∀{vs:List Value} {cs:List C} (_:denVs κ vs cs) (k:Nat),denVs κ (vs.drop k) (cs.drop k)
 |[],[],_,k=>by simp [denVs]
 |_::_,_::_,h,0=>h
 |_::_,_::_,h,k+1=>denVs.drop h.2 k
 |[],_::_,h,_=>h.elim
 |_::_,[],h,_=>h.elim
theorem denVs.take {κ:Kx}:∀{vs:List Value} {cs:List C} (_:denVs κ vs cs) (k:Nat),denVs κ (vs.take k) (cs.take k)
 |[],[],_,k=>by simp [denVs]
 |_::_,_::_,h,0=>trivial
 |_::_,_::_,h,k+1=>⟨h.1,denVs.take h.2 k⟩
 |[],_::_,h,_=>h.elim
 |_::_,[],h,_=>h.elim
theorem denVs.set {κ:Kx}:∀{vs:List Value} {cs:List C} (_:denVs κ vs cs) (k:Nat) {v:Value} {c:C},den κ v c->denVs κ (vs.set k v) (cs.set k c)
 |[],[],_,k,_,_,_=>by simp [denVs]
 |_::_,_::_,h,0,_,_,d=>⟨d,h.2⟩
 |_::_,_::_,h,k+1,_,_,d=>⟨h.1,denVs.set h.2 k d⟩
 |[],_::_,h,_,_,_,_=>h.elim
 |_::_,[],h,_,_,_,_=>h.elim
theorem denM.get {κ:Kx} {b:Nat}:∀{cs:List C} {off:Nat} (_:denM κ b off cs) (i:Nat) {c:C},cs[i]? =some c->∃u,κ.w.cell? ⟨b,off+i,none⟩=some u/\den κ u c
 |[],_,_,i,c,h=>by simp at h
 |_::_,_,h,0,c,hc=>by simp only [denM] at h;simp at hc;subst hc;exact h.1
 |_::_,off,h,i+1,c,hc=>by
  simp only [denM] at h;simp at hc;have:=denM.get h.2 i hc;rwa [Nat.add_right_comm] at this
theorem denM.drop {κ:Kx} {b:Nat}:∀{cs:List C} {off:Nat} (_:denM κ b off cs) (k:Nat),denM κ b (off+k) (cs.drop k)
 |[],_,_,k=>by simp [denM]
 |_::_,_,h,0=>h
 |_::_,off,h,k+1=>by
  simp only [denM] at h;have:=denM.drop h.2 k;rwa [Nat.add_right_comm] at this
theorem denM.take {κ:Kx} {b:Nat}:∀{cs:List C} {off:Nat} (_:denM κ b off cs) (k:Nat),denM κ b off (cs.take k)
 |[],_,_,k=>by simp [denM]
 |_::_,_,_,0=>by simp [denM]
 |_::_,off,h,k+1=>by
  simp only [denM] at h;rw [List.take_succ_cons];simp only [denM];exact ⟨h.1,denM.take h.2 k⟩
theorem denM.vals {κ:Kx} {b:Nat}:∀{cs:List C} {off:Nat} (_:denM κ b off cs),∃us,denVs κ us cs/\∀j u,us[j]? =some u->κ.w.cell? ⟨b,off+j,none⟩=some u
 |[],_,_=>⟨[],trivial,fun j u h=>by simp at h⟩
 |_::_,off,h=>by
  simp only [denM] at h;obtain ⟨⟨u,h1,h2⟩,h3⟩:=h;obtain ⟨us,h4,h5⟩:=denM.vals h3;refine ⟨u::us,⟨h2,h4⟩,fun j x hj=>?_⟩;cases j with
  |zero=>simp at hj;subst hj;exact h1
  |succ j=>simp at hj;have:=h5 j x hj;rwa [Nat.add_right_comm] at this
theorem denM.of_vals {κ:Kx} {b:Nat}:∀{cs:List C} {us:List Value} {off:Nat},denVs κ us cs->(∀j u,us[j]? =some u->κ.w.cell? ⟨b,off+j,none⟩=some u)->denM κ b off cs
 |[],[],_,_,_=>by simp [denM]
 |_::_,u::us,off,h,hc=>by
  simp only [denM];refine ⟨⟨u,hc 0 u rfl,h.1⟩,denM.of_vals h.2 fun j x hj=>?_⟩;have:=hc (j+1) x (by simpa using hj);rwa [Nat.add_right_comm]
 |[],_::_,_,h,_=>h.elim
 |_::_,[],_,h,_=>h.elim
structure Ext (κ κ':Kx):Prop where
 nx:κ.nx<=κ'.nx
 sh:∀b,κ.S b->κ'.S b/\κ'.w.heap[b]? =κ.w.heap[b]?
 ow:∀nm B',κ'.H nm=some B'->κ.nx<=B'.st∨∃B,κ.H nm=some B/\B.st=B'.st/\B.sz=B'.sz/\B.n=B'.n/\κ'.σ nm=κ.σ nm
theorem Ext.refl (κ:Kx):Ext κ κ:=⟨Nat.le_refl _,fun _ h=>⟨h,rfl⟩,fun _ B h=> .inr ⟨B,h,rfl,rfl,rfl,rfl⟩⟩
theorem Ext.trans {a b c:Kx} (h:Ext a b) (k:Ext b c):Ext a c:=by
 refine ⟨Nat.le_trans h.nx k.nx,fun x hx=>⟨(k.sh x (h.sh x hx).1).1,((k.sh x (h.sh x hx).1).2).trans (h.sh x hx).2⟩,fun nm B' hB'=>?_⟩;rcases k.ow nm B' hB' with h1|⟨B,h1,h2,h3,h4,h5⟩
 ·exact .inl (Nat.le_trans h.nx h1)
 rcases h.ow nm B h1 with g1|⟨D,g1,g2,g3,g4,g5⟩
 ·exact .inl (h2▸g1)
 exact .inr ⟨D,g1,g2.trans h2,g3.trans h3,g4.trans h4,h5.trans g5⟩
mutual
theorem iF {κ κ':Kx} (h:Ext κ κ'):∀{c:C} {v:Value},den κ v c->den κ' v c
 | .lit x,v,d=>by simp only [den] at d ⊢;exact d
 | .sh sz n cs,v,d=>by
  simp only [den] at d ⊢;obtain ⟨a,cap,h1,h2,h3,h4,h5,h6⟩:=d;refine ⟨a,cap,h1,h2,h3,h4,h5,?_⟩;rcases h6 with h6|⟨b,off,h6,h7,h8⟩
  ·exact .inl h6
  exact .inr ⟨b,off,h6,(h.sh b h7).1,iR h (h.sh b h7).2 h8⟩
 | .own nm st n sz,v,d=>by
  simp only [den] at d ⊢;refine ⟨d.1,Nat.lt_of_lt_of_le d.2.1 h.nx,fun B' hB' hst=>?_⟩;rcases h.ow nm B' hB' with h1|⟨B,h1,h2,h3,h4,h5⟩
  ·exact absurd d.2.1 (by omega)
  have:=d.2.2 B h1 (h2.trans hst);exact ⟨this.1.trans h5.symm,h4.symm.trans this.2.1,h3.symm.trans this.2.2⟩
 | .ptr nm st off,v,d=>by
  simp only [den] at d ⊢;refine ⟨d.1,Nat.lt_of_lt_of_le d.2.1 h.nx,fun B' hB' hst=>?_⟩;rcases h.ow nm B' hB' with h1|⟨B,h1,h2,h3,h4,h5⟩
  ·exact absurd d.2.1 (by omega)
  rw [h5];exact d.2.2 B h1 (h2.trans hst)
 | .sp cs,v,d=>by
  simp only [den] at d ⊢;obtain ⟨b,off,h1,h2,h3⟩:=d;exact ⟨b,off,h1,(h.sh b h2).1,iR h (h.sh b h2).2 h3⟩
 | .dead,v,d=>by simp only [den] at d ⊢;exact d
 | .vw nm st off n sz,v,d=>by
  simp only [den] at d ⊢;obtain ⟨a,cap,h1,h2,h3,h6,h4,h5⟩:=d;refine ⟨a,cap,h1,h2,h3,h6,Nat.lt_of_lt_of_le h4 h.nx,fun B' hB' hst=>?_⟩;rcases h.ow nm B' hB' with k1|⟨B,k1,k2,k3,k4,k5⟩
  ·exact absurd h4 (by omega)
  have:=h5 B k1 (k2.trans hst);rw [←k3,←k4,k5];exact this
 | .clo f sh cs,v,d=>by
  simp only [den] at d ⊢;obtain ⟨vs,us,h1,h2,h3⟩:=d;exact ⟨vs,us,h1,h2,lN h h3⟩
 | .e0,v,d=>by simp only [den] at d ⊢;exact d
theorem lN {κ κ':Kx} (h:Ext κ κ'):∀{cs:List C} {us:List Value},fC κ us cs->fC κ' us cs
 |[],us,d=>by simp only [fC] at d ⊢;exact d
 |c::cs,us,d=>by
  simp only [fC] at d ⊢;obtain ⟨u,us',h1,h2,h3⟩:=d;exact ⟨u,us',h1,iF h h2,lN h h3⟩
theorem iR {κ κ':Kx} (h:Ext κ κ') {b:Nat} (hb:κ'.w.heap[b]? =κ.w.heap[b]?):∀{cs:List C} {off:Nat},denM κ b off cs->denM κ' b off cs
 |[],off,_=>by simp [denM]
 |c::cs,off,d=>by
  simp only [denM] at d ⊢;obtain ⟨⟨u,h1,h2⟩,h3⟩:=d;exact ⟨⟨u,by rw [World.cell?_of_block (w:=κ.w) hb];exact h1,iF h h2⟩,iR h hb h3⟩
end
theorem ct {κ κ':Kx} (h:Ext κ κ'):∀{vs:List Value} {cs:List C},denVs κ vs cs->denVs κ' vs cs
 |[],[],_=>trivial
 |_::_,_::_,d=>⟨iF h d.1,ct h d.2⟩
 |[],_::_,d=>d.elim
 |_::_,[],d=>d.elim
theorem fZ {κ:Kx}:∀{cs:List C} {us:List Value},fC κ us cs↔denVs κ us cs
 |[],[]=>by simp [fC,denVs]
 |[],_::_=>by simp [fC,denVs]
 |_::_,[]=>by simp [fC,denVs]
 |c::cs,u::us=>by
  simp only [fC,denVs,List.cons.injEq];constructor
  ·rintro ⟨u',us',⟨rfl,rfl⟩,h1,h2⟩;exact ⟨h1,fZ.1 h2⟩
  rintro ⟨h1,h2⟩;exact ⟨u,us,⟨rfl,rfl⟩,h1,fZ.2 h2⟩
inductive A1 where
 |one (c:C)
 |agg (cs:List C)
deriving Inhabited
inductive AV where
 |val (a:A1)
 |tup (l:List A1)
 |dead
deriving Inhabited
def A1.cells:A1->List C
 | .one c=>[c]
 | .agg cs=>cs
def ar (κ:Kx) (v:Value):A1->Prop
 | .one c=>den κ v c
 | .agg cs=>∃vs:List Value,v= .agg vs.toArray/\denVs κ vs cs
def aP (κ:Kx):List Value->List A1->Prop
 |[],[]=>True
 |v::vs,c::cs=>ar κ v c/\aP κ vs cs
 |_,_=>False
def ak (κ:Kx) (v:Value):AV->Prop
 | .val a=>ar κ v a
 | .tup l=>∃vs:List Value,v= .tuple vs.toArray/\aP κ vs l
 | .dead=>True
theorem lO {κ κ':Kx} (h:Ext κ κ'):∀{a:A1} {v:Value},ar κ v a->ar κ' v a
 | .one _,_,d=>iF h d
 | .agg _,_,⟨vs,h1,h2⟩=>⟨vs,h1,ct h h2⟩
theorem j1 {κ κ':Kx} (h:Ext κ κ'):∀{vs:List Value} {cs:List A1},aP κ vs cs->aP κ' vs cs
 |[],[],_=>trivial
 |_::_,_::_,d=>⟨lO h d.1,j1 h d.2⟩
 |[],_::_,d=>d.elim
 |_::_,[],d=>d.elim
theorem dg {κ κ':Kx} (h:Ext κ κ'):∀{a:AV} {v:Value},ak κ v a->ak κ' v a
 | .val _,_,d=>lO h d
 | .tup _,_,⟨vs,h1,h2⟩=>⟨vs,h1,j1 h h2⟩
 | .dead,_,_=>trivial
theorem mZ {κ:Kx}:∀{a:A1} {v:Value},ar κ v a->denVs κ v.cells.toList a.cells
 | .one c,v,d=>by
  have h1:=n7 d;have:v.cells= #[v]:=by cases v<;>simp_all [Value.oneCell',Value.cells]
  rw [this];exact ⟨d,trivial⟩
 | .agg _,_,⟨vs,h1,h2⟩=>by subst h1;simpa [Value.cells,A1.cells] using h2
def up {α:Type} (f:Nat->α) (i:Nat) (x:α):Nat->α:=fun j=>if j=i then x else f j
theorem aO {α:Type} (f:Nat->α) (i:Nat) (x:α):up f i x i=x:=by simp [up]
theorem bM {α:Type} (f:Nat->α) {i j:Nat} (x:α) (h:j≠i):up f i x j=f j:=by simp [up,h]
theorem aj {α:Type} (f:Nat->α) (i:Nat) (x:α) (j:Nat):up f i x j=if j=i then x else f j:=rfl
theorem dL {α:Type} (f:Nat->α) (i:Nat) (x y:α):up (up f i x) i y=up f i y:=by
 funext j;unfold up;split<;>rfl
abbrev Hp:=Nat->Option Blk
structure En where
 w0:World
 T:Nat->Prop
def kx (e:En) (H:Hp) (nx:Nat) (σ:Nat->Value) (w:World):Kx:=⟨e.w0.heap.size,e.T,w,σ,H,nx⟩
def bZ (e:MapEntry):C:= .lit (.agg #[e.key,e.val])
def blkV (κ:Kx) (nm:Nat) (B:Blk):Prop:=
 (B.sz≠0/\B.cs.length=B.n*B.sz/\∃xs,κ.w.ownsRow κ.base B.E B.sz (κ.σ nm) B.n xs/\denVs κ xs B.cs)∨
 (B.sz=0/\B.n=0/\∃b es clock,κ.σ nm= .map (some b)/\κ.base<=b/\κ.w.heap[b]? =some (.map es clock)/\B.cs=es.toList.map bZ)
def xN (κ:Kx) (nm:Nat) (B:Blk):Prop:=B.st<κ.nx/\blkV κ nm B
theorem eZ {w:World} {base:Nat} {E:TypeId} {sz n:Nat} {v:Value} {xs:List Value} (h:w.ownsRow base E sz v n xs):obk v=v.ownBlock:=by
 rcases h.2 with ⟨rfl,_⟩|⟨g,cap,cur,rfl,_⟩<;>rfl
theorem blkV.kept {κ κ' : Kx} {nm : Nat} {B : Blk} {row : Option Nat} (h : blkV κ nm B) (hg : κ.w.grownBy κ'.w row) (hne : obk (κ.σ nm) = none ∨ obk (κ.σ nm) ≠ row) (hb : κ'.base = κ.base) (hs : κ'.σ nm = κ.σ nm) (hx : Ext κ κ') : blkV κ' nm B := by
  rcases h with ⟨h0, h1, xs, h2, h3⟩ | ⟨h1, h2, b, es, clock, h3, h4, h5, h6⟩
  · refine .inl ⟨h0, h1, xs, ?_, ct hx h3⟩
    rw [hb, hs]
    refine h2.kept hg ?_
    rw [← eZ h2]; exact hne
  refine .inr ⟨h1, h2, b, es, clock, by rw [hs]; exact h3, by rw [hb]; exact h4, ?_, h6⟩
  rw [h3] at hne
  have hlt : b < κ.w.heap.size := (Array.getElem?_eq_some_iff.1 h5).1
  rw [hg.block b hlt (fun e => (by rcases hne with h | h; · cases h
                                   exact h e))]
  exact h5
theorem blkV.lt {κ:Kx} {nm:Nat} {B:Blk} (h:blkV κ nm B) {b:Nat} (hb:obk (κ.σ nm)=some b):κ.base<=b/\b<κ.w.heap.size:=by
 rcases h with ⟨_,h1,xs,h2,h3⟩|⟨h1,h2,b',es,clock,h3,h4,h5,h6⟩
 ·rw [eZ h2] at hb;exact h2.lt b hb
 rw [h3] at hb;obtain rfl:b'=b:=Option.some.inj hb;exact ⟨h4,(Array.getElem?_eq_some_iff.1 h5).1⟩
theorem blkV.row {κ:Kx} {nm:Nat} {B:Blk} (h:blkV κ nm B) (hr:B.sz≠0∨B.n≠0∨∃b,(κ.σ nm).ownBlock=some b):B.cs.length=B.n*B.sz/\∃xs,κ.w.ownsRow κ.base B.E B.sz (κ.σ nm) B.n xs/\denVs κ xs B.cs:=by
 rcases h with h|⟨h1,h2,b',es,clock,h3,_⟩
 ·exact h.2
 rcases hr with h|h|⟨b,h⟩
 ·exact (h h1).elim
 ·exact (h h2).elim
 rw [h3] at h;cases h
structure RW (e:En) (H:Hp) (nx:Nat) (σ:Nat->Value) (w:World):Prop where
 bel:Below e.w0.heap.size e.w0 w
 hT:∀b,e.T b->b<e.w0.heap.size
 blk:∀nm B,H nm=some B->xN (kx e H nx σ w) nm B
 inj:∀nm nm' B B',H nm=some B->H nm'=some B'->nm≠nm'->∀b,obk (σ nm)=some b->obk (σ nm')≠some b
section
variable {e : En} {H : Hp} {nx : Nat} {σ : Nat → Value} {w w' : World}
theorem RW.size (h:RW e H nx σ w):e.w0.heap.size<=w.heap.size:=h.bel.size
theorem RW.lt (h:RW e H nx σ w) {nm:Nat} {B:Blk} (hB:H nm=some B) {b:Nat} (hb:obk (σ nm)=some b):e.w0.heap.size<=b/\b<w.heap.size:=(h.blk nm B hB).2.lt hb
theorem RW.rowOf (h:RW e H nx σ w) {nm:Nat} {B:Blk} (hB:H nm=some B) (hr:B.sz≠0∨B.n≠0∨∃b,(σ nm).ownBlock=some b):B.st<nx/\B.cs.length=B.n*B.sz/\∃xs,w.ownsRow e.w0.heap.size B.E B.sz (σ nm) B.n xs/\denVs (kx e H nx σ w) xs B.cs:=
 ⟨(h.blk nm B hB).1,(h.blk nm B hB).2.row hr⟩
theorem RW.szOf (h:RW e H nx σ w) {nm:Nat} {B:Blk} (hB:H nm=some B) (hr:∃b,(σ nm).ownBlock=some b):B.sz≠0:=by
 rcases (h.blk nm B hB).2 with h|⟨h1,h2,b',es,clock,h3,_⟩
 ·exact h.1
 obtain ⟨b,hb⟩:=hr;have h3':σ nm= .map (some b'):=h3;rw [h3'] at hb;cases hb
theorem lP (h:RW e H nx σ w) (hg:w.grownBy w' none):Ext (kx e H nx σ w) (kx e H nx σ w'):=
 ⟨Nat.le_refl _,fun b hb=>⟨⟨hb.1,Nat.lt_of_lt_of_le hb.2.1 hg.size,hb.2.2⟩,hg.block b hb.2.1 (by simp)⟩,fun nm B hB=> .inr ⟨B,hB,rfl,rfl,rfl,rfl⟩⟩
theorem RW.keep (h:RW e H nx σ w) (hg:w.grownBy w' none):RW e H nx σ w'/\Ext (kx e H nx σ w) (kx e H nx σ w'):=by
 refine ⟨⟨h.bel.grown hg h.size (by simp),h.hT,fun nm B hB=>?_,h.inj⟩,lP h hg⟩;exact ⟨(h.blk nm B hB).1,(h.blk nm B hB).2.kept hg (Classical.em _) rfl rfl (lP h hg)⟩
theorem cy {w w':World} (hb:Below w.heap.size w w'):w.grownBy w' none:=⟨hb.os,hb.tape,hb.output,hb.size,fun k hk _=>hb.block k hk⟩
theorem kw (w:World):w.grownBy w.drew none:=⟨rfl,rfl,rfl,Nat.le_refl _,fun _ _ _=>rfl⟩
theorem sV (h:RW e H nx σ w) {nm0 d:Nat} {row:Option Nat} (hg:w.grownBy w' row) {B':Blk} {v':Value} (hst:B'.st=nx)
  (hrow:∀r,row=some r->obk (σ nm0)=some r/\∃B,H nm0=some B)
  (hv:∀r,obk v'=some r->w.heap.size<=r∨(obk (σ nm0)=some r/\∃B,H nm0=some B)):
  Ext (kx e H nx σ w) (kx e (up (up H nm0 none) d (some B')) (nx+1) (up σ d v') w'):=by
 refine ⟨Nat.le_succ _,fun b hb=>⟨⟨hb.1,Nat.lt_of_lt_of_le hb.2.1 hg.size,fun nm B hB=>?_⟩,hg.block b hb.2.1 fun hr=>?_⟩,fun nm B hB=>?_⟩
 ·show obk (up σ d v' nm)≠some b;have hB':up (up H nm0 none) d (some B') nm=some B:=hB;by_cases hd:nm=d
  ·subst hd;rw [aO];intro hvb;rcases hv b hvb with h1|⟨h1,B0,h2⟩
   ·have:=hb.2.1;have h5:b<w.heap.size:=this;omega
   exact hb.2.2 nm0 B0 h2 h1
  rw [bM _ _ hd] at hB' ⊢;by_cases h0:nm=nm0
  ·subst h0;rw [aO] at hB';cases hB'
  rw [bM _ _ h0] at hB';exact hb.2.2 nm B hB'
 ·obtain ⟨h1,B0,h2⟩:=hrow b hr.symm;exact hb.2.2 nm0 B0 h2 h1
 have hB':up (up H nm0 none) d (some B') nm=some B:=hB;by_cases hd:nm=d
 ·subst hd;rw [aO] at hB';cases hB';exact .inl (by show nx<=B'.st;omega)
 rw [bM _ _ hd] at hB';by_cases h0:nm=nm0
 ·subst h0;rw [aO] at hB';cases hB'
 rw [bM _ _ h0] at hB';exact .inr ⟨B,hB',rfl,rfl,rfl,bM _ _ hd⟩
theorem RW.newV (h:RW e H nx σ w) {nm0 d:Nat} {row:Option Nat} (hg:w.grownBy w' row) {B':Blk} {v':Value} (hst:B'.st=nx)
  (hrow:∀r,row=some r->obk (σ nm0)=some r/\∃B,H nm0=some B)
  (hv:∀r,obk v'=some r->w.heap.size<=r∨(obk (σ nm0)=some r/\∃B,H nm0=some B))
  (hnew:Ext (kx e H nx σ w) (kx e (up (up H nm0 none) d (some B')) (nx+1) (up σ d v') w')->blkV (kx e (up (up H nm0 none) d (some B')) (nx+1) (up σ d v') w') d B'):
  RW e (up (up H nm0 none) d (some B')) (nx+1) (up σ d v') w'/\Ext (kx e H nx σ w) (kx e (up (up H nm0 none) d (some B')) (nx+1) (up σ d v') w'):=by
 have hext:=sV (d:=d) h hg hst hrow hv;have old:∀nm B,nm≠d->up (up H nm0 none) d (some B') nm=some B->H nm=some B/\nm≠nm0:=fun nm B hd hB=>by
  rw [bM _ _ hd] at hB;by_cases h0:nm=nm0
  ·subst h0;rw [aO] at hB;cases hB
  rw [bM _ _ h0] at hB;exact ⟨hB,h0⟩
 have hnb:∀nm B,H nm=some B->nm≠nm0->∀r,obk v'=some r->obk (σ nm)≠some r:=fun nm B hB h0 r hr hs=>by
  rcases hv r hr with h1|⟨h1,B0,h2⟩
  ·have:=(h.lt hB hs).2;omega
  exact h.inj nm nm0 B B0 hB h2 h0 r hs h1
 refine ⟨⟨h.bel.grown hg h.size fun k hk=>?_,h.hT,fun nm B hB=>?_,fun nm nm' B B2 hB hB2 hne b hb=>?_⟩,hext⟩
 ·obtain ⟨h1,B0,h2⟩:=hrow k hk;exact (h.lt h2 h1).1
 ·by_cases hdd:nm=d
  ·subst hdd;rw [aO] at hB;cases hB;exact ⟨by show B'.st<nx+1;omega,hnew hext⟩
  obtain ⟨hB0,hne0⟩:=old nm B hdd hB;refine ⟨by show B.st<nx+1;exact Nat.lt_succ_of_lt (h.blk nm B hB0).1,(h.blk nm B hB0).2.kept hg ?_ rfl (bM _ _ hdd) hext⟩;show obk (σ nm)=none∨obk (σ nm)≠row;by_cases hn:obk (σ nm)=none
  ·exact .inl hn
  refine .inr fun e1=>?_
  cases row with
  |none=>exact hn e1
  |some r=>
   obtain ⟨h5,B0,h6⟩:=hrow r rfl;exact h.inj nm nm0 B B0 hB0 h6 hne0 r e1 h5
 by_cases h1:nm=d
 ·subst h1;have h2:nm'≠nm:=fun e=>hne e.symm
  rw [aO] at hb;rw [bM _ _ h2];obtain ⟨hB0,hne0⟩:=old nm' B2 h2 hB2;exact hnb nm' B2 hB0 hne0 b hb
 rw [bM _ _ h1] at hb;obtain ⟨hB0,hne0⟩:=old nm B h1 hB;by_cases h2:nm'=d
 ·subst h2;rw [aO];intro hv';exact hnb nm B hB0 hne0 b hv' hb
 rw [bM _ _ h2];obtain ⟨hB1,hne1⟩:=old nm' B2 h2 hB2;exact h.inj nm nm' B B2 hB0 hB1 hne b hb
theorem RW.new (h:RW e H nx σ w) {nm0 d:Nat} {row:Option Nat} (hg:w.grownBy w' row) {B':Blk} {v':Value} {xs:List Value} (hst:B'.st=nx) (hsz:B'.sz≠0) (hlen:B'.cs.length=B'.n*B'.sz)
  (hrow:∀r,row=some r->obk (σ nm0)=some r/\∃B,H nm0=some B)
  (hv:∀r,obk v'=some r->w.heap.size<=r∨(obk (σ nm0)=some r/\∃B,H nm0=some B))
  (ho:w'.ownsRow e.w0.heap.size B'.E B'.sz v' B'.n xs) (hd:denVs (kx e H nx σ w) xs B'.cs):
  RW e (up (up H nm0 none) d (some B')) (nx+1) (up σ d v') w'/\Ext (kx e H nx σ w) (kx e (up (up H nm0 none) d (some B')) (nx+1) (up σ d v') w'):=
 h.newV hg hst hrow hv fun hext=> .inl ⟨hsz,hlen,xs,by
  show w'.ownsRow _ _ _ (up σ d v' d) _ _;rw [aO];exact ho,ct hext hd⟩
theorem RW.drop (h:RW e H nx σ w) (nm0:Nat):RW e (up H nm0 none) nx σ w/\Ext (kx e H nx σ w) (kx e (up H nm0 none) nx σ w):=by
 have old:∀nm B,up H nm0 none nm=some B->H nm=some B:=fun nm B hB=>by
  by_cases h0:nm=nm0
  ·subst h0;rw [aO] at hB;cases hB
  rw [bM _ _ h0] at hB;exact hB
 have hext:Ext (kx e H nx σ w) (kx e (up H nm0 none) nx σ w):=
  ⟨Nat.le_refl _,fun b hb=>⟨⟨hb.1,hb.2.1,fun nm B hB=>hb.2.2 nm B (old nm B hB)⟩,rfl⟩,fun nm B hB=> .inr ⟨B,old nm B hB,rfl,rfl,rfl,rfl⟩⟩
 refine ⟨⟨h.bel,h.hT,fun nm B hB=>?_,fun nm nm' B B' hB hB'=>h.inj nm nm' B B' (old nm B hB) (old nm' B' hB')⟩,hext⟩;exact ⟨(h.blk nm B (old nm B hB)).1,(h.blk nm B (old nm B hB)).2.kept (row:=none) ⟨rfl,rfl,rfl,Nat.le_refl _,fun _ _ _=>rfl⟩ (Classical.em _) rfl rfl hext⟩
theorem RW.publish (h:RW e H nx σ w) {nm:Nat} {B:Blk} (hB:H nm=some B) (hsz:B.sz≠0):den (kx e (up H nm none) nx σ w) (σ nm) (.sh B.sz B.n B.cs):=by
 obtain ⟨h1,h2,xs,h3,h4⟩:=h.rowOf hB (.inl hsz);have hext:=(h.drop nm).2;simp only [den];rcases h3.2 with ⟨hn,h5⟩|⟨g,cap,cur,hn,hb,hg,hc,hm,hs,ht⟩
 ·refine ⟨none,0,?_,by omega,by unfold maxLen;omega,fun _=>rfl,h2,.inl h5⟩;rw [h5];exact hn
 refine ⟨some ⟨g,0,none⟩,cap,hn,hc,hm,by simp,h2,.inr ⟨g,0,rfl,?_,?_⟩⟩
 ·have hob:obk (σ nm)=some g:=by rw [hn];rfl
  refine ⟨.inr hb,(h.lt hB hob).2,fun nm' B' hB'=>?_⟩;have hB'':up H nm none nm'=some B':=hB';by_cases h0:nm'=nm
  ·subst h0;rw [aO] at hB'';cases hB''
  rw [bM _ _ h0] at hB'';intro e1;exact h.inj nm' nm B' B hB'' hB h0 g e1 hob
 refine denM.of_vals (ct hext h4) fun j u hu=>?_
 have hadd:(⟨g,0,none⟩:Addr).add j=⟨g,0+j,none⟩:=by unfold Addr.add;split<;>simp_all
 have:=h3.cells (g:=g) (by rw [hn];rfl) j u hu;rw [hadd] at this;exact this
end
structure St where
 tm:Nat->AV
 H:Hp
 nx:Nat
 nb:Nat
structure Rel (e:En) (k0:Kx) (N:Nat) (st:St) (a:Act) (w:World):Prop where
 ex:∃σ,RW e st.H st.nx σ w/\(∀t,ak (kx e st.H st.nx σ w) (a.tmps.getD t undef) (st.tm t))/\Ext k0 (kx e st.H st.nx σ w)
 df:a.defers=[]
 sz:a.tmps.size=N
def m0:Value->AV
 | .agg cs=>if cs.toList.all Value.oneCell' then .val (.agg (cs.toList.map .lit)) else .dead
 | .tuple _=> .dead
 |v=> .val (.one (.lit v))
def ev (st:St):Operand->AV
 | .tmp t=>st.tm t
 | .const v=>m0 v
 | .func f=> .val (.one (.lit (.func (.func f) #[] #[])))
 |_=> .dead
theorem bP (κ:Kx):∀(l:List Value),l.all Value.oneCell'=true->denVs κ l (l.map .lit)
 |[],_=>trivial
 |v::l,h=>by
  simp only [List.all_cons,Bool.and_eq_true] at h;exact ⟨by simp only [den];exact ⟨trivial,h.1⟩,bP κ l h.2⟩
theorem iS (κ:Kx) (v:Value):ak κ v (m0 v):=by
 cases v with
 |agg cs=>
  simp only [m0];split
  ·rename_i h;exact ⟨cs.toList,by simp,bP κ _ h⟩
  trivial
 |tuple _=>trivial
 |_=>simp only [m0,ak,ar,den];exact ⟨trivial,rfl⟩
section
variable {e : En} {k0 : Kx} {N : Nat} {st : St} {a : Act} {w : World} {σ : Nat → Value} {κ : Kx}
theorem ao (h:∀t,ak κ (a.tmps.getD t undef) (st.tm t)) (x:Operand):ak κ (a.eval x) (ev st x):=by
 cases x with
 |tmp t=>exact h t
 |const v=>exact iS κ v
 |global g=>trivial
 |func f=>simp only [ev,ak,ar,den];exact ⟨rfl,rfl⟩
theorem Rel.put {σ σ':Nat->Value} {H':Hp} {nx':Nat} {w':World} (hr:Rel e k0 N st a w) (hW:RW e H' nx' σ' w') (ht:∀t,ak (kx e st.H st.nx σ w) (a.tmps.getD t undef) (st.tm t)) (h0:Ext k0 (kx e st.H st.nx σ w))
  (hx:Ext (kx e st.H st.nx σ w) (kx e H' nx' σ' w')) {v:Value} {x:AV} (hd:ak (kx e H' nx' σ' w') v x) (d:Nat) (hdN:d<N):
  Rel e k0 N ⟨up st.tm d x,H',nx',st.nb⟩ (a.put (some d) v) w':=by
 refine ⟨⟨σ',hW,fun t=>?_,h0.trans hx⟩,hr.df,by simp [Act.put,hr.sz]⟩;simp only [Act.put];by_cases htd:t=d
 ·subst htd;rw [aO];have:t<a.tmps.size:=by rw [hr.sz];exact hdN
  simpa [this] using hd
 rw [bM _ _ htd];have hne:¬d=t:=fun e=>htd e.symm
 have:=dg hx (ht t);simpa [Array.getD_eq_getD_getElem?,Array.getElem?_setIfInBounds,hne] using this
theorem Rel.skip {σ σ':Nat->Value} {H':Hp} {nx':Nat} {w':World} (hr:Rel e k0 N st a w) (hW:RW e H' nx' σ' w') (ht:∀t,ak (kx e st.H st.nx σ w) (a.tmps.getD t undef) (st.tm t)) (h0:Ext k0 (kx e st.H st.nx σ w))
  (hx:Ext (kx e st.H st.nx σ w) (kx e H' nx' σ' w')) (v:Value):Rel e k0 N ⟨st.tm,H',nx',st.nb⟩ (a.put none v) w':=
 ⟨⟨σ',hW,fun t=>dg hx (ht t),h0.trans hx⟩,hr.df,hr.sz⟩
theorem Rel.drew (hr:Rel e k0 N st a w):Rel e k0 N st a w.drew:=by
 obtain ⟨σ,h1,h2,h3⟩:=hr.ex;obtain ⟨k1,k2⟩:=h1.keep (kw w);exact ⟨⟨σ,k1,fun t=>dg k2 (h2 t),h3.trans k2⟩,hr.df,hr.sz⟩
end
def ldT (P:Program) (t:TypeId):Option (Bool×Nat):=
 match P.underlying t,P.info? t with
 |some (.struct _),some i=>some (true,i.size)
 |some (.array _ _),some i=>some (true,i.size)
 |some _,some i=>some (false,i.size)
 |_,_=>none
def foT (P:Program) (t:TypeId) (f:Nat):Option (Nat×TypeId):=
 match P.underlying t with
 |some (.struct fs)=>match fs[f]? with
  |some f=>match P.info? f.type with
   |some i=>if i.size=0 then none else some (f.offset,f.type)
   |none=>none
  |none=>none
 |_=>none
def elT (P:Program) (t:TypeId):Option (TypeId×Nat×Nat):=
 match P.underlying t with
 |some (.slice e)=>(P.info? e).map fun i=>(e,i.size,i.bytes)
 |_=>none
def arT (P:Program) (t:TypeId):Option (Nat×TypeId×Nat):=
 match P.underlying t with
 |some (.array n e)=>(P.info? e).map fun i=>(n,e,i.size)
 |_=>none
section
variable {P : Program} {w : World}
theorem f4 {t:TypeId} {n:Nat} (h:ldT P t=some (true,n)) (w:World):(isAgg t).run P w= .ok true w/\(sizeOf t).run P w= .ok n w:=by
 unfold ldT at h;split at h<;>simp at h
 ·rename_i h1 h2;subst h;constructor<;>simp [isAgg,sizeOf,underlying,typeInfo,h1,h2]
 rename_i h1 h2;subst h;constructor<;>simp [isAgg,sizeOf,underlying,typeInfo,h1,h2]
theorem e6 {t:TypeId} {n:Nat} (h:ldT P t=some (false,n)) (w:World):(isAgg t).run P w= .ok false w/\(sizeOf t).run P w= .ok n w:=by
 unfold ldT at h;split at h<;>simp at h
 rename_i i d h1 h2 h3 h4;subst h;constructor
 ·simp only [isAgg,underlying,Sem.run_bind,run_program,Result.andThen_ok,h3];cases d<;>simp_all
 simp [sizeOf,typeInfo,h4]
theorem n8 {t:TypeId} {f off:Nat} {ft:TypeId} (h:foT P t f=some (off,ft)) (b o:Nat) (w:World):(Instr.fieldAt t (.pointer (some ⟨b,o,none⟩)) f).run P w= .ok (.pointer (some ⟨b,o+off,none⟩)) w:=by
 unfold foT at h;split at h<;>try (simp at h;done)
 rename_i fs h1;split at h<;>try (simp at h;done)
 rename_i fl h2;split at h<;>try (simp at h;done)
 rename_i i h3;split at h<;>try (simp at h;done)
 rename_i h4;have h5:fl.offset=off:=by have:=Option.some.inj h;exact congrArg Prod.fst this
 have hadd:(⟨b,o,none⟩:Addr).add off=⟨b,o+off,none⟩:=by unfold Addr.add;split<;>simp_all
 simp [Instr.fieldAt,underlying,h1,h2,Instr.sureAddr,fieldPlace,sizeOf,typeInfo,h3,h4,h5,hadd]
theorem bi {t e:TypeId} {sz by_:Nat} (h:elT P t=some (e,sz,by_)):P.underlying t=some (.slice e)/\∃i,P.info? e=some i/\i.size=sz/\i.bytes=by_:=by
 unfold elT at h;split at h<;>try (simp at h;done)
 rename_i e' h1;cases hi:P.info? e' with
 |none=>rw [hi] at h;cases h
 |some i=>
  rw [hi] at h;simp at h;obtain ⟨rfl,rfl,rfl⟩:=h;exact ⟨h1,i,hi,rfl,rfl⟩
theorem eC {t e:TypeId} {sz by_:Nat} (h:elT P t=some (e,sz,by_)) (k:IntKind) (i:Int) (b o n cap:Nat) (h0:0<=i) (h1:i<n) (w:World):
  (Instr.indexAt t (.slice (some ⟨b,o,none⟩) n cap) (.int k i)).run P w= .ok (.pointer (some ⟨b,o+i.toNat*sz,none⟩)) w:=by
 obtain ⟨h2,j,h3,h4,h5⟩:=bi h;have hadd:(⟨b,o,none⟩:Addr).add (i.toNat*sz)=⟨b,o+i.toNat*sz,none⟩:=by unfold Addr.add;split<;>simp_all
 simp [Instr.indexAt,asIntOf,underlying,h2,h0,h1,sizeOf,typeInfo,h3,h4,hadd]
end
def inK (k:IntKind) (n:Int):Prop:=k.min<=n/\n<=k.max
def eqV:Value->Value->Bool
 | .int _ a,.int _ b=>decide (a=b)
 | .bool a,.bool b=>a==b
 | .string a,.string b=>decide (a=b)
 |_,_=>false
def fD:List Value->List Value->Bool
 |[],[]=>true
 |a::l,b::m=>eqV a b&&fD l m
 |_,_=>false
def bX:List C->Option (List Value)
 |[]=>some []
 | .lit v::l=>(bX l).map (v::·)
 |_=>none
def iT (P:Program) (t:TypeId) (xs ys:List Value):Prop:=∀w,(Op.equal t (.agg xs.toArray) (.agg ys.toArray)).run P w= .ok (fD xs ys) w/\((Program.eqGuardType P P.depth t)=false)
def dU (P:Program) (op:BinOp) (t:TypeId):Value->Value->Option (Prop×Value)
 | .int k a,.int k' b=>
  match op with
  | .shl=>some (0<=b,.int k (k.wrap (a*2^(min b.toNat k.bits))))
  | .shr=>some (0<=b,.int k (a.fdiv (2^(min b.toNat k.bits))))
  |_=>
  if k≠k' then none else
  match op with
  | .add=>if k= .i64 then some (inK k (a+b),.int k (a+b)) else some (True,.int k (k.wrap (a+b)))
  | .sub=>if k= .i64 then some (inK k (a-b),.int k (a-b)) else some (True,.int k (k.wrap (a-b)))
  | .mul=>if k= .i64 then some (inK k (a*b),.int k (a*b)) else some (True,.int k (k.wrap (a*b)))
  | .quo=>some (b≠0,.int k (k.wrap (a.tdiv b)))
  | .rem=>some (b≠0,.int k (a.tmod b))
  | .and=>some (True,.int k (k.wrap (BitVec.ofInt k.bits a&&&BitVec.ofInt k.bits b).toNat))
  | .or=>some (True,.int k (k.wrap (BitVec.ofInt k.bits a|||BitVec.ofInt k.bits b).toNat))
  | .eql=>some (True,.bool (decide (a=b)))
  | .neq=>some (True,.bool (!decide (a=b)))
  | .lss=>some (True,.bool (decide (a<b)))
  | .leq=>some (True,.bool (decide (a<=b)))
  | .gtr=>some (True,.bool (decide (b<a)))
  | .geq=>some (True,.bool (decide (b<=a)))
  |_=>none
 | .string a,.string b=>
  match op with
  | .eql=>some (True,.bool (decide (a=b)))
  | .neq=>some (True,.bool (!decide (a=b)))
  |_=>none
 | .bool a,.bool b=>
  match op with
  | .eql=>some (P.underlying t=some .bool,.bool (a==b))
  | .neq=>some (P.underlying t=some .bool,.bool (!(a==b)))
  |_=>none
 |_,_=>none
theorem ky {n:Int} (h:inK .i64 n):IntKind.i64.wrap n=n:=by
 have h1:IntKind.i64.min= -9223372036854775808:=by decide
 have h2:IntKind.i64.max=9223372036854775807:=by decide
 unfold inK at h;rw [h1,h2] at h;rw [IntKind.wrap_i64];omega
theorem qt (a b:ByteArray):(a.toList==b.toList)=decide (a=b):=by
 rw [Bool.eq_iff_iff];simp only [beq_iff_eq,decide_eq_true_eq,ByteArray.toList_eq];constructor
 ·intro h;cases a;cases b;simp only [ByteArray.mk.injEq];exact Array.toList_inj.1 h
 rintro rfl;rfl
theorem iD {op:BinOp} {t:TypeId} {x y:Operand} {k:IntKind} {n:Int} {v:Value}:eqGuard op t x y (.int k n) v=pure ():=eqGuard_at_int ..
theorem lQ {P : Program} {op : BinOp} {t : TypeId} {x y : Operand} {u v r : Value} {p : Prop} (h : dU P op t u v = some (p, r)) (hp : p) (w : World) :
    ((eqGuard op t x y u v >>= fun _ => binOp op t u v).run P w) = .ok r w ∧ r.oneCell' = true := by
  cases u <;> try (simp only [dU] at h; cases h; done)
  · rename_i a
    cases v <;> try (simp only [dU] at h; cases h; done)
    rename_i b
    rw [eqGuard_at_bool]
    cases op <;> simp only [dU] at h <;> try (cases h; done)
    all_goals
      simp only [Option.some.injEq, Prod.mk.injEq] at h
      obtain ⟨rfl, rfl⟩ := h
      refine ⟨?_, rfl⟩
      have hu : P.underlying t = some .bool := hp
      have key : ∀ d, (Op.equalIn (d + 1) t (.bool a) (.bool b)).run P w = .ok (a == b) w := fun d => by simp [Op.equalIn, underlying, hu]
      have : (Op.equalIn Op.maxDepth t (.bool a) (.bool b)).run P w = .ok (a == b) w := key 9999
      simp [binOp, Op.equal, this]
  · rename_i k a
    cases v <;> try (simp only [dU] at h; cases h; done)
    rename_i k' b
    rw [eqGuard_at_int]
    have hw : ∀ n, inK .i64 n → IntKind.i64.wrap n = n := fun n => ky
    by_cases hk : k = k'
    · subst hk
      cases op <;> simp only [dU, ne_eq, not_true_eq_false, if_false] at h <;> try (cases h; done)
      all_goals try (split at h; rename_i hk2; subst hk2)
      all_goals (simp only [Option.some.injEq, Prod.mk.injEq] at h; obtain ⟨rfl, rfl⟩ := h; refine ⟨?_, rfl⟩)
      all_goals first
        | (simp [binOp, Op.intArith, hw _ hp]; done)
        | (simp [binOp, Op.intArith]; done)
        | (have hp' : ¬ b = 0 := hp
           simp [binOp, Op.intDiv, hp']; done)
        | (have hp' : ¬ b < 0 := by simpa using hp
           simp [binOp, Op.shift, hp']; done)
        | (simp [binOp, Op.intBits]; done)
        | (simp [binOp, Op.intCmp]; done)
        | (simp [binOp, Op.intCmp]; rfl)
    cases op <;> simp only [dU, ne_eq, hk, not_false_eq_true, if_true] at h <;> try (cases h; done)
    all_goals
      simp only [Option.some.injEq, Prod.mk.injEq] at h
      obtain ⟨rfl, rfl⟩ := h
      refine ⟨?_, rfl⟩
      have hp' : ¬ b < 0 := by simpa using hp
      simp [binOp, Op.shift, hp']
  rename_i a
  cases v <;> try (simp only [dU] at h; cases h; done)
  rename_i b
  rw [eqGuard_at_string]
  cases op <;> simp only [dU] at h <;> try (cases h; done)
  all_goals simp only [Option.some.injEq, Prod.mk.injEq] at h
  · obtain ⟨rfl, rfl⟩ := h
    refine ⟨?_, rfl⟩
    simp only [Sem.run_bind, Sem.run_pure, Result.andThen_ok]
    rw [binOp_string_eql, qt]; rfl
  obtain ⟨rfl, rfl⟩ := h
  refine ⟨?_, rfl⟩
  simp only [Sem.run_bind, Sem.run_pure, Result.andThen_ok]
  rw [binOp_string_neq, qt]; rfl
abbrev one (v:Value):AV:= .val (.one (.lit v))
def cut (ag:Bool) (sz off:Nat) (cs:List C):AV:=
 if ag then .val (.agg ((cs.drop off).take sz)) else match cs[off]? with
  |some c=> .val (.one c)
  |none=> .dead
def bnd (st:St) (x:Option Operand) (d:Nat):Option (Prop×Nat):=
 match x with
 |none=>some (True,d)
 |some x=>match ev st x with
  | .val (.one (.lit (.int _ i)))=>some (0<=i,i.toNat)
  |_=>none
def vW:AV->Option Nat
 | .val (.one (.own _ _ n _))=>some n
 | .val (.one (.sh _ n _))=>some n
 | .val (.one (.lit (.slice _ n _)))=>some n
 |_=>none
def cW (P:Program) (st:St):Op->Option (Prop×AV)
 | .fieldAddr s x f=>match ev st x,foT P s f with
  | .val (.one (.ptr nm s' off)),some (o,_)=>some (∃B,st.H nm=some B/\B.st=s',.val (.one (.ptr nm s' (off+o))))
  | .val (.one (.sp cs)),some (o,_)=>some (True,.val (.one (.sp (cs.drop o))))
  |_,_=>none
 | .indexAddr t x ix=>match ev st x,ev st ix,elT P t,arT P t with
  | .val (.one (.own nm s' n sz)),.val (.one (.lit (.int _ i))),some (_,sz',_),_=>some (sz=sz'/\0<=i/\i<n/\∃B,st.H nm=some B/\B.st=s',.val (.one (.ptr nm s' (i.toNat*sz))))
  | .val (.one (.sh sz n cs)),.val (.one (.lit (.int _ i))),some (_,sz',_),_=>some (sz=sz'/\0<=i/\i<n,.val (.one (.sp (cs.drop (i.toNat*sz)))))
  | .val (.one (.ptr nm s' off)),.val (.one (.lit (.int _ i))),_,some (n,_,sz)=>some (0<=i/\i<n/\∃B,st.H nm=some B/\B.st=s',.val (.one (.ptr nm s' (off+i.toNat*sz))))
  | .val (.one (.sp cs)),.val (.one (.lit (.int _ i))),_,some (n,_,sz)=>some (0<=i/\i<n,.val (.one (.sp (cs.drop (i.toNat*sz)))))
  |_,_,_,_=>none
 | .load t x=>match ev st x,ldT P t with
  | .val (.one (.ptr nm s' off)),some (ag,sz)=>match st.H nm with
   |some B=>some (B.st=s'/\off+sz<=B.cs.length/\(ag=true∨sz=1),cut ag sz off B.cs)
   |none=>none
  | .val (.one (.sp cs)),some (ag,sz)=>some (sz<=cs.length/\(ag=true∨sz=1),cut ag sz 0 cs)
  |_,_=>none
 | .nilCheck x=>match ev st x with
  | .val (.one (.ptr nm s' off))=>some (∃B,st.H nm=some B/\B.st=s',.val (.one (.ptr nm s' off)))
  | .val (.one (.sp cs))=>some (True,.val (.one (.sp cs)))
  |_=>none
 |_=>none
def ce (P:Program) (st:St):Op->Option (Prop×AV)
 | .move x=>some (True,ev st x)
 | .assign x=>some (True,ev st x)
 | .pick c x y=>match ev st c with
  | .val (.one (.lit (.bool t)))=>some (True,if t then ev st x else ev st y)
  |_=>none
 | .field xt x f=>match ev st x,foT P xt f with
  | .val (.agg cs),some (o,ft)=>match ldT P ft with
   |some (ag,sz)=>some (o+sz<=cs.length/\(ag=true∨sz=1),cut ag sz o cs)
   |none=>none
  |_,_=>none
 | .extract x i=>match ev st x with
  | .tup l=>match l[i]? with
   |some a=>some (True,.val a)
   |none=>none
  |_=>none
 | .binOp op t x y _=>match ev st x,ev st y with
  | .val (.one (.lit u)),.val (.one (.lit v))=>match dU P op t u v with
   |some (p,r)=>some (p,one r)
   |none=>none
  | .val (.agg xs),.val (.agg ys)=>match bX xs,bX ys with
   |some us,some vs=>match op with
    | .eql=>some (iT P t us vs,one (.bool (fD us vs)))
    | .neq=>some (iT P t us vs,one (.bool (!fD us vs)))
    |_=>none
   |_,_=>none
  |_,_=>none
 | .unOp .not _ x=>match ev st x with
  | .val (.one (.lit (.bool t)))=>some (True,one (.bool (!t)))
  |_=>none
 | .unOp .neg _ x=>match ev st x with
  | .val (.one (.lit (.int k n)))=>if k= .i64 then some (inK k (0-n),one (.int k (0-n))) else some (True,one (.int k (k.wrap (0-n))))
  |_=>none
 | .convert s d x=>match ev st x,P.underlying d with
  | .val (.one (.lit (.int _ n))),some (.int k)=>if k= .i64 then some (inK .i64 n/\(P.underlying s).isSome=true,one (.int .i64 n)) else some ((P.underlying s).isSome=true,one (.int k (k.wrap n)))
  |_,_=>none
 | .index t x ix=>match ev st x,ev st ix with
  | .val (.one (.lit (.string s))),.val (.one (.lit (.int _ i)))=>some (P.underlying t=some .string/\0<=i/\i<s.size,one (.int .u8 (s.data.toList.getD i.toNat 0).toNat))
  | .val (.agg cs),.val (.one (.lit (.int _ i)))=>match arT P t with
   |some (n,e,sz)=>match ldT P e with
    |some (ag,sz')=>some (0<=i/\i<n/\sz'=sz/\i.toNat*sz+sz<=cs.length/\(ag=true∨sz=1),cut ag sz (i.toNat*sz) cs)
    |none=>none
   |none=>none
  |_,_=>none
 | .slice t x lo hi none=>match ev st x with
  | .val (.one (.sh sz n cs))=>match elT P t,bnd st lo 0,bnd st hi n with
   |some (_,sz',_),some (p1,l),some (p2,h)=>some (sz=sz'/\p1/\p2/\l<=h/\h<=n,.val (.one (.sh sz (h-l) ((cs.drop (l*sz)).take ((h-l)*sz)))))
   |_,_,_=>none
  | .val (.one (.lit (.string s)))=>match bnd st lo 0,bnd st hi s.size with
   |some (p1,l),some (p2,h)=>some (P.underlying t=some .string/\p1/\p2/\l<=h/\h<=s.size,one (.string (s.extract l h)))
   |_,_=>none
  |_=>none
 |_=>none
def cu (P:Program) (st:St) (c:Call):Option (Prop×AV):=
 match c.callee with
 | .builtin .len=>match c.args.toList,c.argTypes.toList with
  |[x],[t]=>match ev st x with
   | .val (.one (.lit (.string s)))=>some (P.underlying t=some .string,one (.int .i64 s.size))
   |_=>match vW (ev st x),elT P t with
    |some n,some _=>some (match ev st x with
     | .val (.one (.own nm s' _ sz))=>sz≠0/\∃B,st.H nm=some B/\B.st=s'
     |_=>True,one (.int .i64 n))
    |_,_=>none
  |_,_=>none
 |_=>none
def ib (P:Program) (st:St) (op:Op):Option (Prop×AV):=
 match op with
 | .fieldAddr .. | .indexAddr .. | .load .. | .nilCheck .. =>cW P st op
 | .call c=>cu P st c
 |op=>ce P st op
def Yl (P:Program) (o:Oper) (a:Act) (w:World) (κ:Kx) (x:AV):Prop:=
 ∃v,(∀w',FL w w'∨reads o.op=false->(execOp a.eval o).run P w'= .ok (.value v) w')/\ak κ v x
theorem kz {P:Program} {t e:TypeId} {n sz:Nat} (h:arT P t=some (n,e,sz)):P.underlying t=some (.array n e)/\∃i,P.info? e=some i/\i.size=sz:=by
 unfold arT at h;split at h<;>try (simp at h;done)
 rename_i n' e' h1;cases hi:P.info? e' with
 |none=>rw [hi] at h;cases h
 |some i=>
  rw [hi] at h;simp at h;obtain ⟨rfl,rfl,rfl⟩:=h;exact ⟨h1,i,hi,rfl⟩
theorem j2 {P:Program} {t e:TypeId} {n sz:Nat} (h:arT P t=some (n,e,sz)) (k:IntKind) (i:Int) (b o:Nat) (h0:0<=i) (h1:i<n) (w:World):
  (Instr.indexAt t (.pointer (some ⟨b,o,none⟩)) (.int k i)).run P w= .ok (.pointer (some ⟨b,o+i.toNat*sz,none⟩)) w:=by
 obtain ⟨h2,j,h3,h4⟩:=kz h;have hadd:(⟨b,o,none⟩:Addr).add (i.toNat*sz)=⟨b,o+i.toNat*sz,none⟩:=by unfold Addr.add;split<;>simp_all
 simp [Instr.indexAt,asIntOf,Instr.sureAddr,underlying,h2,h0,h1,sizeOf,typeInfo,h3,h4,hadd]
section
variable {P : Program} {e : En} {N : Nat} {st : St} {a : Act} {w : World} {σ : Nat → Value} {o : Oper} {p : Prop} {x : AV}
theorem dw (hW:RW e st.H st.nx σ w) {nm s' off:Nat} {v:Value} (hv:ak (kx e st.H st.nx σ w) v (.val (.one (.ptr nm s' off)))) {B:Blk} (hB:st.H nm=some B) (hs:B.st=s'):
  ∃b,(σ nm).ownBlock=some b/\v= .pointer (some ⟨b,off,none⟩)/\∃xs,w.ownsRow e.w0.heap.size B.E B.sz (σ nm) B.n xs/\denVs (kx e st.H st.nx σ w) xs B.cs:=by
 simp only [ak,ar,den] at hv;obtain ⟨b,h1,h2⟩:=hv.2.2 B hB hs;obtain ⟨_,_,xs,h3,h4⟩:=hW.rowOf hB (.inr (.inr ⟨b,h1⟩));exact ⟨b,h1,h2,xs,h3,h4⟩
theorem n9 {w w':World} (h:FL w w') {q:Addr} {v:Value} (hc:w.cell? q=some v):w'.cell? q=some v:=by
 rw [FL.cell h (by rw [hc];rfl)];exact hc
theorem cz (b o n:Nat):(⟨b,o,none⟩:Addr).add n=⟨b,o+n,none⟩:=by unfold Addr.add;split<;>simp_all
theorem kA {w:World} {κ:Kx} {t:TypeId} {ag:Bool} {sz b off k:Nat} {us:List Value} {cs:List C} (hl:ldT P t=some (ag,sz)) (hd:denVs κ us cs) (hk:k+sz<=cs.length) (ha:ag=true∨sz=1)
  (hc:∀j u,us[j]? =some u->w.cell? ⟨b,off+j,none⟩=some u):
  ∃v,(∀w',FL w w'->(Instr.loadAt t (.pointer (some ⟨b,off+k,none⟩))).run P w'= .ok v w')/\ak κ v (cut ag sz k cs):=by
 have hlen:=hd.length;cases ag with
 |true=>
  refine ⟨.agg ((us.drop k).take sz).toArray,fun w' hF=>?_,?_⟩
  ·have hsz:((us.drop k).take sz).length=sz:=by simp;omega
   have h1:=run_loadCells_list (P:=P) w' ⟨b,off+k,none⟩ ((us.drop k).take sz) (fun j v hv=>by
    rw [cz];have hj:j<sz:=by
     have:=(List.getElem?_eq_some_iff.1 hv).1;omega
    rw [List.getElem?_take,if_pos hj,List.getElem?_drop] at hv;have:=hc (k+j) v hv;rw [←Nat.add_assoc] at this;exact n9 hF this)
   rw [hsz] at h1;simp [Instr.loadAt,Instr.sureAddr,loadVar,(f4 hl w').1,(f4 hl w').2,h1]
  simp only [cut,if_true,ak,ar];exact ⟨_,rfl,(hd.drop k).take sz⟩
 |false=>
  obtain rfl:sz=1:=by simpa using ha
  have hk':k<cs.length:=by omega
  obtain ⟨u,h1,h2⟩:=hd.get k (List.getElem?_eq_getElem hk');refine ⟨u,fun w' hF=>?_,?_⟩
  ·have:=n9 hF (hc k u h1);simp [Instr.loadAt,Instr.sureAddr,loadVar,(e6 hl w').1,this]
  simp only [cut,List.getElem?_eq_getElem hk',ak,ar];simpa using h2
theorem cT (hW:RW e st.H st.nx σ w) (ht:∀t,ak (kx e st.H st.nx σ w) (a.tmps.getD t undef) (st.tm t)) (h:cW P st o.op=some (p,x)) (hp:p):Yl P o a w (kx e st.H st.nx σ w) x:=by
 generalize hop:o.op=op at h;cases op<;>simp only [cW] at h<;>try (cases h;done)
 case load t y=>
  have hy:=ao ht y;split at h<;>try (cases h;done)
  ·rename_i nm s' off ag sz hey hl;rw [hey] at hy;split at h<;>try (cases h;done)
   rename_i B hB;simp only [Option.some.injEq,Prod.mk.injEq] at h;obtain ⟨rfl,rfl⟩:=h;obtain ⟨hs,hk,ha⟩:=hp;obtain ⟨b,h1,h2,xs,h3,h4⟩:=dw hW hy hB hs;obtain ⟨v,h5,h6⟩:=kA (P:=P) (w:=w) (b:=b) (off:=0) hl h4 hk ha (fun j u hu=>by have:=h3.cells h1 j u hu;rwa [cz] at this);refine ⟨v,fun w' hF=>?_,h6⟩;have:=h5 w' (hF.resolve_right (by simp [reads,hop]));rw [Nat.zero_add] at this;simp only [execOp,hop,h2,Sem.run_bind,this,Result.andThen_ok,Sem.run_pure]
  rename_i cs ag sz hey hl;rw [hey] at hy;simp only [Option.some.injEq,Prod.mk.injEq] at h;obtain ⟨rfl,rfl⟩:=h;obtain ⟨hk,ha⟩:=hp;simp only [ak,ar,den] at hy;obtain ⟨b,off,h1,h2,h3⟩:=hy;obtain ⟨us,h4,h5⟩:=h3.vals;obtain ⟨v,h6,h7⟩:=kA (P:=P) (w:=w) (b:=b) (off:=off) hl h4 (k:=0) (by omega) ha h5;refine ⟨v,fun w' hF=>?_,h7⟩;have:=h6 w' (hF.resolve_right (by simp [reads,hop]));rw [Nat.add_zero] at this;simp only [execOp,hop,h1,Sem.run_bind,this,Result.andThen_ok,Sem.run_pure]
 case nilCheck y=>
  have hy:=ao ht y;split at h<;>try (cases h;done)
  ·rename_i nm s' off hey;rw [hey] at hy;simp only [Option.some.injEq,Prod.mk.injEq] at h;obtain ⟨rfl,rfl⟩:=h;obtain ⟨B,hB,hs⟩:=hp;obtain ⟨b,h1,h2,_⟩:=dw hW hy hB hs;refine ⟨_,fun w' hF=>?_,hy⟩;simp [execOp,hop,h2]
  rename_i cs hey;rw [hey] at hy;simp only [Option.some.injEq,Prod.mk.injEq] at h;obtain ⟨rfl,rfl⟩:=h;have hy':=hy;simp only [ak,ar,den] at hy';obtain ⟨b,off,h1,_⟩:=hy';refine ⟨_,fun w' hF=>?_,hy⟩;simp [execOp,hop,h1]
 case fieldAddr s y f=>
  have hy:=ao ht y;split at h<;>try (cases h;done)
  ·rename_i nm s' off o' ft hey hf;rw [hey] at hy;simp only [Option.some.injEq,Prod.mk.injEq] at h;obtain ⟨rfl,rfl⟩:=h;obtain ⟨B,hB,hs⟩:=hp;obtain ⟨b,h1,h2,_⟩:=dw hW hy hB hs;refine ⟨.pointer (some ⟨b,off+o',none⟩),fun w' hF=>?_,?_⟩
   ·simp only [execOp,hop,h2,Sem.run_bind,n8 hf,Result.andThen_ok,Sem.run_pure]
   simp only [ak,ar,den] at hy ⊢;exact ⟨rfl,hy.2.1,fun B' hB' hs'=>⟨b,h1,rfl⟩⟩
  rename_i cs o' ft hey hf;rw [hey] at hy;simp only [Option.some.injEq,Prod.mk.injEq] at h;obtain ⟨rfl,rfl⟩:=h;simp only [ak,ar,den] at hy;obtain ⟨b,off,h1,h2,h3⟩:=hy;refine ⟨.pointer (some ⟨b,off+o',none⟩),fun w' hF=>?_,?_⟩
  ·simp only [execOp,hop,h1,Sem.run_bind,n8 hf,Result.andThen_ok,Sem.run_pure]
  simp only [ak,ar,den];exact ⟨b,off+o',rfl,h2,h3.drop o'⟩
 case indexAddr t y ix=>
  have hy:=ao ht y;have hx:=ao ht ix;split at h<;>try (cases h;done)
  ·rename_i nm s' n sz k i e' sz' by_ hey hex hl;rw [hey] at hy;rw [hex] at hx;simp only [Option.some.injEq,Prod.mk.injEq] at h;obtain ⟨rfl,rfl⟩:=h;obtain ⟨rfl,h0,h1,B,hB,hs⟩:=hp;simp only [ak,ar,den] at hy hx;obtain ⟨h2,h3,h4⟩:=hy.2.2 B hB hs;obtain ⟨_,_,xs,h5,h6⟩:=hW.rowOf hB (.inr (.inl (by omega)));have h2':a.eval y=σ nm:=h2;rcases h5.2 with ⟨h7,h8⟩|⟨g,cap,cur,h7,_⟩
   ·omega
   have h7':σ nm= .slice (some ⟨g,0,none⟩) B.n cap:=h7;refine ⟨.pointer (some ⟨g,i.toNat*sz,none⟩),fun w' hF=>?_,?_⟩
   ·have:=eC (P:=P) hl k i g 0 B.n cap h0 (by omega) w';rw [Nat.zero_add] at this;simp only [execOp,hop,h2',h7',hx.1,Sem.run_bind,this,Result.andThen_ok,Sem.run_pure]
   simp only [ak,ar,den];refine ⟨rfl,hy.2.1,fun B' hB' hs'=>⟨g,?_,rfl⟩⟩;show (σ nm).ownBlock=some g;rw [h7'];rfl
  ·rename_i sz n cs k i e' sz' by_ hey hex hl;rw [hey] at hy;rw [hex] at hx;simp only [Option.some.injEq,Prod.mk.injEq] at h;obtain ⟨rfl,rfl⟩:=h;obtain ⟨rfl,h0,h1⟩:=hp;simp only [ak,ar,den] at hy hx;obtain ⟨ad,cap,h2,h3,h4,h5,h6,h7⟩:=hy;rcases h7 with h7|⟨b,off,rfl,h8,h9⟩
   ·omega
   refine ⟨.pointer (some ⟨b,off+i.toNat*sz,none⟩),fun w' hF=>?_,?_⟩
   ·simp only [execOp,hop,h2,hx.1,Sem.run_bind,eC hl k i b off n cap h0 h1,Result.andThen_ok,Sem.run_pure]
   simp only [ak,ar,den];exact ⟨b,_,rfl,h8,h9.drop _⟩
  ·rename_i nm s' off k i n e' sz hey hex hl;rw [hey] at hy;rw [hex] at hx;simp only [Option.some.injEq,Prod.mk.injEq] at h;obtain ⟨rfl,rfl⟩:=h;obtain ⟨h0,h1,B,hB,hs⟩:=hp;obtain ⟨b,h2,h3,_⟩:=dw hW hy hB hs;simp only [ak,ar,den] at hx;refine ⟨.pointer (some ⟨b,off+i.toNat*sz,none⟩),fun w' hF=>?_,?_⟩
   ·simp only [execOp,hop,h3,hx.1,Sem.run_bind,j2 hl k i b off h0 h1,Result.andThen_ok,Sem.run_pure]
   simp only [ak,ar,den] at hy ⊢;exact ⟨rfl,hy.2.1,fun B' hB' hs'=>⟨b,h2,rfl⟩⟩
  rename_i cs k i n e' sz hey hex hl;rw [hey] at hy;rw [hex] at hx;simp only [Option.some.injEq,Prod.mk.injEq] at h;obtain ⟨rfl,rfl⟩:=h;obtain ⟨h0,h1⟩:=hp;simp only [ak,ar,den] at hy hx;obtain ⟨b,off,h2,h3,h4⟩:=hy;refine ⟨.pointer (some ⟨b,off+i.toNat*sz,none⟩),fun w' hF=>?_,?_⟩
  ·simp only [execOp,hop,h2,hx.1,Sem.run_bind,j2 hl k i b off h0 h1,Result.andThen_ok,Sem.run_pure]
  simp only [ak,ar,den];exact ⟨b,_,rfl,h3,h4.drop _⟩
theorem oa {κ : Kx} {t : TypeId} {ag : Bool} {sz k : Nat} {us : List Value} {cs : List C} (hl : ldT P t = some (ag, sz)) (hd : denVs κ us cs) (hk : k + sz ≤ cs.length) (ha : ag = true ∨ sz = 1) :
    ∃ v, (∀ w', (part t us.toArray k).run P w' = .ok v w') ∧ ak κ v (cut ag sz k cs) := by
  have hlen := hd.length
  cases ag with
  | true =>
    refine ⟨.agg ((us.drop k).take sz).toArray, fun w' => ?_, ?_⟩
    · have : us.toArray.extract k (k + sz) = ((us.drop k).take sz).toArray := by
        simp
      simp only [part, Sem.run_bind, (f4 hl w').1, Result.andThen_ok, if_true, (f4 hl w').2, Sem.run_pure, this]
    simp only [cut, if_true, ak, ar]
    exact ⟨_, rfl, (hd.drop k).take sz⟩
  | false =>
    obtain rfl : sz = 1 := by simpa using ha
    have hk' : k < cs.length := by omega
    obtain ⟨u, h1, h2⟩ := hd.get k (List.getElem?_eq_getElem hk')
    refine ⟨u, fun w' => ?_, ?_⟩
    · simp [part, (e6 hl w').1, h1]
    simp only [cut, List.getElem?_eq_getElem hk', ak, ar]
    simpa using h2
theorem dV {κ:Kx}:∀{cs:List C} {us vs:List Value},bX cs=some us->denVs κ vs cs->vs=us
 |[],us,vs,h,d=>by
  simp [bX] at h;subst h;exact List.eq_nil_of_length_eq_zero d.length
 |c::cs,us,[],h,d=>d.elim
 | .lit v::cs,us,u::vs,h,d=>by
  simp only [bX,Option.map_eq_some_iff] at h;obtain ⟨l,h1,rfl⟩:=h;have h2:=d.1;simp only [den] at h2;rw [dV h1 d.2,h2.1]
 | .sh .. ::_,_,_::_,h,_=>by simp [bX] at h
 | .own .. ::_,_,_::_,h,_=>by simp [bX] at h
 | .ptr .. ::_,_,_::_,h,_=>by simp [bX] at h
 | .sp .. ::_,_,_::_,h,_=>by simp [bX] at h
 | .dead::_,_,_::_,h,_=>by simp [bX] at h
theorem fr {op:BinOp} {t:TypeId} {x y:Operand} {us vs:Array Value} (h:P.eqGuardType P.depth t=false) (w:World):(eqGuard op t x y (.agg us) (.agg vs)).run P w= .ok () w:=by
 cases op<;>simp [eqGuard,h]
theorem eE (ht:∀t,ak (kx e st.H st.nx σ w) (a.tmps.getD t undef) (st.tm t)) {y:Option Operand} {d n:Nat} (h:bnd st y d=some (p,n)) (hp:p):
  (y=none/\n=d)∨∃z k,y=some z/\a.eval z= .int k (n:Int):=by
 unfold bnd at h;split at h
 ·simp at h;exact .inl ⟨rfl,h.2.symm⟩
 rename_i z;have hz:=ao ht z;split at h<;>try (cases h;done)
 rename_i k i hez;rw [hez] at hz;simp only [Option.some.injEq,Prod.mk.injEq] at h;obtain ⟨rfl,rfl⟩:=h;simp only [ak,ar,den] at hz;exact .inr ⟨z,k,rfl,by rw [hz.1];congr 1;exact (Int.toNat_of_nonneg hp).symm⟩
end
section
variable {P : Program} {e : En} {N : Nat} {st : St} {a : Act} {w : World} {σ : Nat → Value} {o : Oper} {p : Prop} {x : AV}
theorem pn {t:TypeId} {f off:Nat} {ft:TypeId} (h:foT P t f=some (off,ft)) (us:Array Value) (w:World):(Instr.field t (.agg us) f).run P w=(part ft us off).run P w:=by
 unfold foT at h;split at h<;>try (simp at h;done)
 rename_i fs h1;split at h<;>try (simp at h;done)
 rename_i fl h2;split at h<;>try (simp at h;done)
 rename_i i h3;split at h<;>try (simp at h;done)
 have h5:=Option.some.inj h;have h6:fl.offset=off:=congrArg Prod.fst h5;have h7:fl.type=ft:=congrArg Prod.snd h5;simp [Instr.field,underlying,h1,h2,asAgg,h6,h7]
theorem lR (hW:RW e st.H st.nx σ w) (ht:∀t,ak (kx e st.H st.nx σ w) (a.tmps.getD t undef) (st.tm t)) (h:ce P st o.op=some (p,x)) (hp:p):Yl P o a w (kx e st.H st.nx σ w) x:=by
 generalize hop:o.op=op at h;cases op<;>simp only [ce] at h<;>try (cases h;done)
 case move y=>
  simp only [Option.some.injEq,Prod.mk.injEq] at h;obtain ⟨rfl,rfl⟩:=h;exact ⟨a.eval y,fun w' _=>by simp [execOp,hop],ao ht y⟩
 case assign y=>
  simp only [Option.some.injEq,Prod.mk.injEq] at h;obtain ⟨rfl,rfl⟩:=h;exact ⟨a.eval y,fun w' _=>by simp [execOp,hop],ao ht y⟩
 case pick c y z=>
  have hc:=ao ht c;split at h<;>try (cases h;done)
  rename_i t hec;rw [hec] at hc;simp only [Option.some.injEq,Prod.mk.injEq] at h;obtain ⟨rfl,rfl⟩:=h;simp only [ak,ar,den] at hc;refine ⟨if t then a.eval y else a.eval z,fun w' _=>by simp [execOp,hop,hc.1,asBool],?_⟩;cases t
  ·exact ao ht z
  exact ao ht y
 case field xt y f=>
  have hy:=ao ht y;split at h<;>try (cases h;done)
  rename_i cs o' ft hey hf;rw [hey] at hy;split at h<;>try (cases h;done)
  rename_i ag sz hl;simp only [Option.some.injEq,Prod.mk.injEq] at h;obtain ⟨rfl,rfl⟩:=h;obtain ⟨us,h1,h2⟩:=hy;obtain ⟨v,h3,h4⟩:=oa (P:=P) hl h2 hp.1 hp.2;exact ⟨v,fun w' _=>by simp only [execOp,hop,h1,Sem.run_bind,pn hf,h3 w',Result.andThen_ok,Sem.run_pure],h4⟩
 case extract y i=>
  have hy:=ao ht y;split at h<;>try (cases h;done)
  rename_i l hey;rw [hey] at hy;split at h<;>try (cases h;done)
  rename_i b hb;simp only [Option.some.injEq,Prod.mk.injEq] at h;obtain ⟨rfl,rfl⟩:=h;obtain ⟨vs,h1,h2⟩:=hy;have key:∀(l:List A1) (vs:List Value) (i:Nat) (b:A1),aP (kx e st.H st.nx σ w) vs l->l[i]? =some b->∃v,vs[i]? =some v/\ar (kx e st.H st.nx σ w) v b:=by
   intro l;induction l with
   |nil=>intro vs i b _ h;simp at h
   |cons c l ih=>
    intro vs i b hd hb;cases vs with
    |nil=>exact hd.elim
    |cons v vs=>
     cases i with
     |zero=>simp at hb;subst hb;exact ⟨v,rfl,hd.1⟩
     |succ i=>simp at hb;simpa using ih vs i b hd.2 hb
  obtain ⟨v,h3,h4⟩:=key l vs i b h2 hb;exact ⟨v,fun w' _=>by simp [execOp,hop,h1,Instr.extract,h3],h4⟩
 case binOp op t y z yt=>
  have hy:=ao ht y;have hz:=ao ht z;split at h<;>try (cases h;done)
  ·rename_i u v hey hez;rw [hey] at hy;rw [hez] at hz;split at h<;>try (cases h;done)
   rename_i q r hb;simp only [Option.some.injEq,Prod.mk.injEq] at h;obtain ⟨rfl,rfl⟩:=h;simp only [ak,ar,den] at hy hz;refine ⟨r,fun w' _=>?_,?_⟩
   ·have:=(lQ (x:=y) (y:=z) hb hp w').1;simp only [execOp,hop,hy.1,hz.1];rw [Sem.run_bind,this];rfl
   simp only [ak,ar,den];exact ⟨trivial,(lQ (x:=y) (y:=z) hb hp w).2⟩
  rename_i xs ys hey hez;rw [hey] at hy;rw [hez] at hz;split at h<;>try (cases h;done)
  rename_i us vs hu hv;obtain ⟨us',h1,h2⟩:=hy;obtain ⟨vs',h3,h4⟩:=hz;obtain rfl:=dV hu h2;obtain rfl:=dV hv h4;cases op<;>simp only [reduceCtorEq,Option.some.injEq,Prod.mk.injEq] at h
  ·obtain ⟨rfl,rfl⟩:=h;refine ⟨.bool (fD us' vs'),fun w' _=>?_,?_⟩
   ·have:=hp w';simp only [execOp,hop,h1,h3,Sem.run_bind,fr this.2,Result.andThen_ok,binOp,this.1,Sem.run_pure]
   simp only [ak,ar,den];exact ⟨trivial,rfl⟩
  obtain ⟨rfl,rfl⟩:=h;refine ⟨.bool (!fD us' vs'),fun w' _=>?_,?_⟩
  ·have:=hp w';simp only [execOp,hop,h1,h3,Sem.run_bind,fr this.2,Result.andThen_ok,binOp,this.1,Sem.run_pure]
  simp only [ak,ar,den];exact ⟨trivial,rfl⟩
 case unOp op t y=>
  have hy:=ao ht y;cases op<;>simp only [reduceCtorEq] at h
  ·split at h<;>try (cases h;done)
   rename_i k n hey;rw [hey] at hy;simp only [ak,ar,den] at hy;split at h
   ·rename_i hk;subst hk;simp only [Option.some.injEq,Prod.mk.injEq] at h;obtain ⟨rfl,rfl⟩:=h;refine ⟨.int .i64 (0-n),fun w' _=>?_,by simp only [ak,ar,den];exact ⟨trivial,rfl⟩⟩;have:=ky hp;simp only [execOp,hop,hy.1,Op.unary,Op.intArith,this,Sem.run_bind,Sem.run_pure,Result.andThen_ok]
   simp only [Option.some.injEq,Prod.mk.injEq] at h;obtain ⟨rfl,rfl⟩:=h;refine ⟨.int k (k.wrap (0-n)),fun w' _=>?_,by simp only [ak,ar,den];exact ⟨trivial,rfl⟩⟩;simp only [execOp,hop,hy.1,Op.unary,Op.intArith,Sem.run_bind,Sem.run_pure,Result.andThen_ok]
  split at h<;>try (cases h;done)
  rename_i t hey;rw [hey] at hy;simp only [Option.some.injEq,Prod.mk.injEq] at h;obtain ⟨rfl,rfl⟩:=h;simp only [ak,ar,den] at hy;exact ⟨.bool (!t),fun w' _=>by simp [execOp,hop,hy.1,Op.unary],by simp only [ak,ar,den];exact ⟨trivial,rfl⟩⟩
 case convert s d y=>
  have hy:=ao ht y;split at h<;>try (cases h;done)
  rename_i k0 n k hey hd;rw [hey] at hy;simp only [ak,ar,den] at hy;split at h
  ·rename_i hk;subst hk;simp only [Option.some.injEq,Prod.mk.injEq] at h;obtain ⟨rfl,rfl⟩:=h;obtain ⟨hi,hs⟩:=hp;obtain ⟨sd,hs⟩:=Option.isSome_iff_exists.1 hs;refine ⟨.int .i64 n,fun w' _=>?_,by simp only [ak,ar,den];exact ⟨trivial,rfl⟩⟩;simp [execOp,hop,hy.1,convert,underlying,hd,hs,Conv.intToInt,ky hi]
  simp only [Option.some.injEq,Prod.mk.injEq] at h;obtain ⟨rfl,rfl⟩:=h;obtain ⟨sd,hs⟩:=Option.isSome_iff_exists.1 hp;refine ⟨.int k (k.wrap n),fun w' _=>?_,by simp only [ak,ar,den];exact ⟨trivial,rfl⟩⟩;simp [execOp,hop,hy.1,convert,underlying,hd,hs,Conv.intToInt]
 case index t y ix=>
  have hy:=ao ht y;have hx:=ao ht ix;split at h<;>try (cases h;done)
  ·rename_i s k i hey hex;rw [hey] at hy;rw [hex] at hx;simp only [Option.some.injEq,Prod.mk.injEq] at h;obtain ⟨rfl,rfl⟩:=h;obtain ⟨hu,h0,h1⟩:=hp;simp only [ak,ar,den] at hx hy;refine ⟨.int .u8 ((s.data.toList.getD i.toNat 0).toNat:Int),fun w' _=>?_,by simp only [ak,ar,den];exact ⟨trivial,rfl⟩⟩;have hlt:i.toNat<s.size:=by omega
   have hget:s[i.toNat]? =some (s.data.toList.getD i.toNat 0):=by
    have h2:i.toNat<s.data.toList.length:=by simpa using hlt
    rw [getElem?_pos s i.toNat hlt];simp only [List.getD_eq_getElem?_getD,List.getElem?_eq_getElem h2,Option.getD_some];rfl
   simp only [execOp,hop,hy.1,hx.1,Sem.run_bind,Instr.index,asIntOf,Sem.run_pure,Result.andThen_ok,run_underlying hu,h0,if_true,hget]
  rename_i cs k i hey hex;rw [hey] at hy;rw [hex] at hx;split at h<;>try (cases h;done)
  rename_i n e' sz har;split at h<;>try (cases h;done)
  rename_i ag sz' hl;simp only [Option.some.injEq,Prod.mk.injEq] at h;obtain ⟨rfl,rfl⟩:=h;obtain ⟨h0,h1,rfl,h2,h3⟩:=hp;simp only [ak,ar,den] at hx;obtain ⟨us,h4,h5⟩:=hy;obtain ⟨g1,j,g2,g3⟩:=kz har;obtain ⟨v,h6,h7⟩:=oa (P:=P) hl h5 h2 h3;refine ⟨v,fun w' _=>?_,h7⟩;have hc:0<=i/\i<(n:Int):=⟨h0,h1⟩;simp only [execOp,hop,h4,hx.1,Sem.run_bind,Instr.index,asIntOf,Sem.run_pure,Result.andThen_ok,run_underlying g1,Sem.run_ite,if_pos hc,sizeOf,typeInfo,run_program,g2,g3,h6 w']
 case slice t y lo hi mx=>
  cases mx<;>simp only [reduceCtorEq] at h;have hy:=ao ht y;split at h<;>try (cases h;done)
  ·rename_i sz n cs hey;rw [hey] at hy;split at h<;>try (cases h;done)
   rename_i e' sz' by_ p1 l p2 hh hel hb1 hb2;simp only [Option.some.injEq,Prod.mk.injEq] at h;obtain ⟨rfl,rfl⟩:=h;obtain ⟨rfl,hp1,hp2,hlh,hhn⟩:=hp;obtain ⟨g1,j,g2,g3,_⟩:=bi hel;simp only [ak,ar,den] at hy;obtain ⟨ad,cap,h1,h2,h3,h4,h5,h6⟩:=hy;have e1:∀w',(Instr.sliceBounds true n cap (lo.map a.eval) (hi.map a.eval) none).run P w'= .ok (l,hh,cap) w':=fun w'=>by
    have f2:(0:Int)<=(hh:Int)/\(hh:Int)<=(cap:Int):=⟨by omega,by omega⟩;have f1:(0:Int)<=(l:Int)/\(l:Int)<=(hh:Int):=⟨by omega,by omega⟩;rcases eE ht hb1 hp1 with ⟨rfl,rfl⟩|⟨z1,k1,rfl,q1⟩<;>rcases eE ht hb2 hp2 with ⟨rfl,rfl⟩|⟨z2,k2,rfl,q2⟩
    ·simp [Instr.sliceBounds]
    ·simp only [Instr.sliceBounds,Option.map_some,Option.map_none,q2,Instr.sliceBound,asIntOf,Sem.run_bind,Sem.run_pure,Result.andThen_ok,Sem.run_ite,if_pos f2,Int.toNat_natCast]
    ·simp only [Instr.sliceBounds,Option.map_some,Option.map_none,q1,Instr.sliceBound,asIntOf,Sem.run_bind,Sem.run_pure,Result.andThen_ok,Sem.run_ite,if_pos f1,Int.toNat_natCast]
    simp only [Instr.sliceBounds,Option.map_some,q1,q2,Instr.sliceBound,asIntOf,Sem.run_bind,Sem.run_pure,Result.andThen_ok,Sem.run_ite,if_pos f1,if_pos f2,Int.toNat_natCast]
   refine ⟨.slice (if cap=l then ad else ad.map (·.add (l*sz))) (hh-l) (cap-l),fun w' _=>?_,?_⟩
   ·simp only [execOp,hop,h1,Sem.run_bind,Instr.sliceAt,run_underlying g1,Result.andThen_ok,Instr.slice,e1 w',sizeOf,typeInfo,run_program,g2,g3,Sem.run_pure,Option.map_none]
   simp only [ak,ar,den];refine ⟨_,_,rfl,by omega,by omega,fun hnone=>?_,?_,?_⟩
   ·split at hnone
    ·have:=h4 hnone;omega
    cases ad with
    |none=>have:=h4 rfl;omega
    |some q=>simp at hnone
   ·have hle:l*sz+(hh-l)*sz<=n*sz:=by rw [←Nat.add_mul];exact Nat.mul_le_mul_right _ (by omega)
    simp;omega
   rcases h6 with h6|⟨b,off,rfl,h7,h8⟩
   ·exact .inl (by omega)
   by_cases hcl:cap=l
   ·exact .inl (by omega)
   refine .inr ⟨b,off+l*sz,?_,h7,?_⟩
   ·rw [if_neg hcl];simp [cz]
   exact (h8.drop (l*sz)).take _
  rename_i s hey;rw [hey] at hy;split at h<;>try (cases h;done)
  rename_i p1 l p2 hh hb1 hb2;simp only [Option.some.injEq,Prod.mk.injEq] at h;obtain ⟨rfl,rfl⟩:=h;obtain ⟨hu,hp1,hp2,hlh,hhn⟩:=hp;simp only [ak,ar,den] at hy;have e1:∀w',(Instr.sliceBounds false s.size s.size (lo.map a.eval) (hi.map a.eval) none).run P w'= .ok (l,hh,s.size) w':=fun w'=>by
   have f2:(0:Int)<=(hh:Int)/\(hh:Int)<=(s.size:Int):=⟨by omega,by omega⟩;have f1:(0:Int)<=(l:Int)/\(l:Int)<=(hh:Int):=⟨by omega,by omega⟩;rcases eE ht hb1 hp1 with ⟨rfl,rfl⟩|⟨z1,k1,rfl,q1⟩<;>rcases eE ht hb2 hp2 with ⟨rfl,rfl⟩|⟨z2,k2,rfl,q2⟩
   ·simp [Instr.sliceBounds]
   ·simp only [Instr.sliceBounds,Option.map_some,Option.map_none,q2,Instr.sliceBound,asIntOf,Sem.run_bind,Sem.run_pure,Result.andThen_ok,Sem.run_ite,if_pos f2,Int.toNat_natCast]
   ·simp only [Instr.sliceBounds,Option.map_some,Option.map_none,q1,Instr.sliceBound,asIntOf,Sem.run_bind,Sem.run_pure,Result.andThen_ok,Sem.run_ite,if_pos f1,Int.toNat_natCast]
   simp only [Instr.sliceBounds,Option.map_some,q1,q2,Instr.sliceBound,asIntOf,Sem.run_bind,Sem.run_pure,Result.andThen_ok,Sem.run_ite,if_pos f1,if_pos f2,Int.toNat_natCast]
  refine ⟨.string (s.extract l hh),fun w' _=>?_,by simp only [ak,ar,den];exact ⟨trivial,rfl⟩⟩;simp only [execOp,hop,hy.1,Sem.run_bind,Instr.sliceAt,run_underlying hu,Result.andThen_ok,Instr.slice,e1 w',Sem.run_pure,Option.map_none,Option.isSome_none,Bool.false_eq_true,if_false]
theorem kB {c:Call} (hW:RW e st.H st.nx σ w) (ht:∀t,ak (kx e st.H st.nx σ w) (a.tmps.getD t undef) (st.tm t)) (hop:o.op= .call c) (h:cu P st c=some (p,x)) (hp:p):Yl P o a w (kx e st.H st.nx σ w) x:=by
 obtain ⟨callee,args,argTypes⟩:=c;simp only [cu] at h;split at h<;>try (cases h;done)
 split at h<;>try (cases h;done)
 rename_i y t hargs htys;have ha:args= #[y]:=Array.toList_inj.1 hargs;have hty:argTypes= #[t]:=Array.toList_inj.1 htys;subst ha hty;have hy:=ao ht y;have hrun:∀v w',(Builtin.len_ #[t] o.type #[a.eval y]).run P w'= .ok v w'->(execOp a.eval o).run P w'= .ok (.value v) w':=fun v w' hv=>by
  simp [execOp,hop,resolve,invoke,builtin,hv]
 split at h
 ·rename_i s hey;rw [hey] at hy;simp only [Option.some.injEq,Prod.mk.injEq] at h;obtain ⟨rfl,rfl⟩:=h;simp only [ak,ar,den] at hy;refine ⟨.int .i64 s.size,fun w' _=>hrun _ _ ?_,by simp only [ak,ar,den];exact ⟨trivial,rfl⟩⟩;rw [hy.1,run_len_string _ _ _ _ hp];rfl
 split at h<;>try (cases h;done)
 rename_i n el hn hel;simp only [Option.some.injEq,Prod.mk.injEq] at h;obtain ⟨hp',rfl⟩:=h;rw [←hp'] at hp;have key:∃ad cap,a.eval y= .slice ad n cap:=by
  unfold vW at hn;split at hn<;>try (cases hn;done)
  ·rename_i nm s' n' sz hey;rw [hey] at hy hp;obtain rfl:=Option.some.inj hn;obtain ⟨hsz,B,hB,hs⟩:=hp;simp only [ak,ar,den] at hy;obtain ⟨h1,h2,h3⟩:=hy.2.2 B hB hs;obtain ⟨_,_,xs,h5,h6⟩:=hW.rowOf hB (.inl (by rw [h3];exact hsz));have h1':a.eval y=σ nm:=h1;rcases h5.2 with ⟨h7,h8⟩|⟨g,cap,cur,h7,_⟩
   ·exact ⟨none,0,by rw [h1',←h2,h8];exact h7⟩
   exact ⟨some ⟨g,0,none⟩,cap,by rw [h1',←h2];exact h7⟩
  ·rename_i sz n' cs hey;rw [hey] at hy;obtain rfl:=Option.some.inj hn;simp only [ak,ar,den] at hy;obtain ⟨ad,cap,h1,_⟩:=hy;exact ⟨ad,cap,h1⟩
  rename_i ad n' cap hey;rw [hey] at hy;obtain rfl:=Option.some.inj hn;simp only [ak,ar,den] at hy;exact ⟨ad,cap,hy.1⟩
 obtain ⟨ad,cap,hv⟩:=key;obtain ⟨e',sz,by_⟩:=el;obtain ⟨g1,_⟩:=bi hel;refine ⟨.int .i64 n,fun w' _=>hrun _ _ ?_,by simp only [ak,ar,den];exact ⟨trivial,rfl⟩⟩;rw [hv];simp [Builtin.len_,run_underlying g1,goInt]
theorem lS (hW:RW e st.H st.nx σ w) (ht:∀t,ak (kx e st.H st.nx σ w) (a.tmps.getD t undef) (st.tm t)) (h:ib P st o.op=some (p,x)) (hp:p):Yl P o a w (kx e st.H st.nx σ w) x:=by
 unfold ib at h;split at h
 ·exact cT hW ht h hp
 ·exact cT hW ht h hp
 ·exact cT hW ht h hp
 ·exact cT hW ht h hp
 ·rename_i hop;exact kB hW ht hop h hp
 exact lR hW ht h hp
end
def spl {α:Type} (cs:List α) (off:Nat) (ds:List α):List α:=cs.take off++ds++cs.drop (off+ds.length)
theorem fE {α:Type} (cs:List α) (off:Nat) (ds:List α) (h:off+ds.length<=cs.length):(spl cs off ds).length=cs.length:=by
 simp [spl];omega
theorem j3 {κ:Kx} {vs us:List Value} {cs ds:List C} (h:denVs κ vs cs) (k:denVs κ us ds) (off:Nat):denVs κ (spl vs off us) (spl cs off ds):=by
 unfold spl;rw [k.length];exact ((h.take off).append k).append (h.drop _)
def b5 {α:Type} (n:Nat) (z:List α):List α:=(List.replicate n z).flatten
theorem bQ {α:Type} (n:Nat) (z:List α):(b5 n z).length=n*z.length:=by simp [b5]
theorem dW {κ:Kx} {vs:List Value} {cs:List C} (h:denVs κ vs cs):∀n,denVs κ (b5 n vs) (b5 n cs)
 |0=>trivial
 |n+1=>by
  have:∀{α:Type} (z:List α),b5 (n+1) z=z++b5 n z:=fun z=>by simp [b5,List.replicate_succ]
  rw [this,this];exact h.append (dW h n)
theorem gF (z:Array Value) (n:Nat):(madeCells z (n*z.size)).toList=b5 n z.toList:=by
 apply List.ext_getElem
 ·simp [madeCells,bQ]
 intro i h1 h2;have hi:i<n*z.size:=by simpa [madeCells] using h1
 have hz:0<z.size:=by
  rcases Nat.eq_zero_or_pos z.size with h|h
  ·rw [h] at hi;simp at hi
  exact h
 have key:∀(n:Nat) (l:List Value) (i:Nat) (hi:i<n*l.length),0<l.length->(b5 n l)[i]? =l[i%l.length]? :=by
  intro n l;induction n with
  |zero=>intro i hi;simp at hi
  |succ n ih=>
   intro i hi hl;have e:b5 (n+1) l=l++b5 n l:=by simp [b5,List.replicate_succ]
   rw [e];rcases Nat.lt_or_ge i l.length with h|h
   ·rw [List.getElem?_append_left h,Nat.mod_eq_of_lt h]
   rw [List.getElem?_append_right h,ih (i-l.length) (by rw [Nat.succ_mul] at hi;omega) hl];congr 1;rw [Nat.mod_eq_sub_mod h]
 have h3:=key n z.toList i (by simpa using hi) (by simpa using hz);rw [List.getElem?_eq_getElem h2] at h3;have h4:i%z.size<z.size:=Nat.mod_lt _ hz;have h5:(b5 n z.toList)[i]=z[i%z.size]:=by
  have:z.toList[i%z.toList.length]? =some z[i%z.size]:=by simp [h4]
  rw [this] at h3;exact Option.some.inj h3
 rw [h5];simp only [madeCells,Array.getElem_toList,Array.getElem_map,Array.getElem_range];rw [getElem!_pos z _ h4]
section
variable {e : En} {H : Hp} {nx : Nat} {σ : Nat → Value} {w w' : World}
theorem RW.updV (h:RW e H nx σ w) {nm:Nat} {B:Blk} {cs:List C} {row:Option Nat} (hB:H nm=some B) (hg:w.grownBy w' row) (hrow:∀r,row=some r->obk (σ nm)=some r)
  (hnew:Ext (kx e H nx σ w) (kx e (up H nm (some {B with cs:=cs})) nx σ w')->blkV (kx e (up H nm (some {B with cs:=cs})) nx σ w') nm {B with cs:=cs}):
  RW e (up H nm (some {B with cs:=cs})) nx σ w'/\Ext (kx e H nx σ w) (kx e (up H nm (some {B with cs:=cs})) nx σ w'):=by
 have old:∀nm' B',up H nm (some {B with cs:=cs}) nm'=some B'->∃B0,H nm'=some B0/\B0.st=B'.st/\B0.sz=B'.sz/\B0.n=B'.n/\B0.E=B'.E/\(nm'≠nm->B0=B'):=fun nm' B' hB'=>by
  by_cases h0:nm'=nm
  ·subst h0;rw [aO] at hB';cases hB';exact ⟨B,hB,rfl,rfl,rfl,rfl,fun h=>(h rfl).elim⟩
  rw [bM _ _ h0] at hB';exact ⟨B',hB',rfl,rfl,rfl,rfl,fun _=>rfl⟩
 have hext:Ext (kx e H nx σ w) (kx e (up H nm (some {B with cs:=cs})) nx σ w'):=by
  refine ⟨Nat.le_refl _,fun k hk=>⟨⟨hk.1,?_,fun nm' B' hB'=>?_⟩,?_⟩,fun nm' B' hB'=>?_⟩
  ·exact Nat.lt_of_lt_of_le hk.2.1 hg.size
  ·obtain ⟨B0,h1,_⟩:=old nm' B' hB';exact hk.2.2 nm' B0 h1
  ·exact hg.block k hk.2.1 (fun e1=>hk.2.2 nm B hB (hrow k e1.symm))
  obtain ⟨B0,h1,h2,h3,h4,_⟩:=old nm' B' hB';exact .inr ⟨B0,h1,h2,h3,h4,rfl⟩
 refine ⟨⟨h.bel.grown hg h.size (fun k hk=>(h.lt hB (hrow k hk)).1),h.hT,fun nm' B' hB'=>?_,fun n1 n2 B1 B2 hB1 hB2=>?_⟩,hext⟩
 ·obtain ⟨B0,g1,g2,g3,g4,g5,g6⟩:=old nm' B' hB';by_cases h0:nm'=nm
  ·subst h0;rw [aO] at hB';cases hB';exact ⟨by have:=(h.blk nm' B0 g1).1;rw [g2] at this;exact this,hnew hext⟩
  obtain rfl:=g6 h0;refine ⟨(h.blk nm' B0 g1).1,(h.blk nm' B0 g1).2.kept hg ?_ rfl rfl hext⟩;show obk (σ nm')=none∨obk (σ nm')≠row;by_cases hn:obk (σ nm')=none
  ·exact .inl hn
  obtain ⟨b,hb⟩:=Option.ne_none_iff_exists'.1 hn;refine .inr fun e1=>?_
  rw [hb] at e1;exact h.inj nm' nm B0 B g1 hB h0 b hb (hrow b e1.symm)
 obtain ⟨D1,g1,_⟩:=old n1 B1 hB1;obtain ⟨D2,g2,_⟩:=old n2 B2 hB2;exact h.inj n1 n2 D1 D2 g1 g2
theorem RW.upd (h:RW e H nx σ w) {nm:Nat} {B:Blk} (hB:H nm=some B) (hg:w.grownBy w' (σ nm).ownBlock) {xs:List Value} {cs:List C} (hsz:B.sz≠0) (hlen:cs.length=B.n*B.sz)
  (ho:w'.ownsRow e.w0.heap.size B.E B.sz (σ nm) B.n xs) (hd:denVs (kx e H nx σ w) xs cs):
  RW e (up H nm (some {B with cs:=cs})) nx σ w'/\Ext (kx e H nx σ w) (kx e (up H nm (some {B with cs:=cs})) nx σ w'):=
 h.updV hB hg (fun r hr=>bO hr) fun hext=> .inl ⟨hsz,hlen,xs,ho,ct hext hd⟩
theorem grownBy_alloc (w:World) (o:Obj):w.grownBy (w.alloc o) none:=World.grownBy_alloc w o none
theorem iU (w:World) (g:Nat) (cs:Array Value):w.grownBy (w.setRow g cs) (some g):=
 ⟨rfl,rfl,rfl,by simp,fun k _ hk=>setRow_other w g k cs (fun e=>hk (by rw [e]))⟩
theorem RW.row (h:RW e H nx σ w) (d:Nat) (E:TypeId) (sz n:Nat) (hsz:sz≠0) {us:List Value} {cs:List C} (hd:denVs (kx e H nx σ w) us cs) (hlen:cs.length=n*sz) (hn:n<=maxLen):
  RW e (up H d (some ⟨nx,E,sz,n,cs⟩)) (nx+1) (up σ d (.slice (some ⟨w.heap.size,0,none⟩) n n)) (w.alloc (.cells us.toArray E))/\
  Ext (kx e H nx σ w) (kx e (up H d (some ⟨nx,E,sz,n,cs⟩)) (nx+1) (up σ d (.slice (some ⟨w.heap.size,0,none⟩) n n)) (w.alloc (.cells us.toArray E))):=by
 have:=RW.new (d:=d) (nm0:=d) (row:=none) h (grownBy_alloc w (.cells us.toArray E)) (B':=⟨nx,E,sz,n,cs⟩) (v':= .slice (some ⟨w.heap.size,0,none⟩) n n) (xs:=us) rfl hsz hlen (by simp)
  (fun r hr=> .inl (by simp [obk] at hr;omega)) ⟨by rw [hd.length];exact hlen,.inr ⟨w.heap.size,n,us.toArray,rfl,h.size,heap_alloc_new _ _,Nat.le_refl _,hn,by simp [hd.length,hlen],by
   rw [List.take_of_length_le (by simp [hd.length,hlen])]⟩⟩ hd
 rwa [dL] at this
end
def cellsOf:AV->Option (List C)
 | .val a=>some a.cells
 |_=>none
def zrT (P:Program) (t:TypeId):Option (List Value):=
 match (P.info? t).map (·.zero) with
 |some (some v)=>if v.cells.toList.all Value.oneCell' then some v.cells.toList else none
 |_=>none
def plT (P:Program) (t:TypeId):Option (List (Nat×Nat)):=
 match P.underlying t with
 |some (.struct fs)=>fs.toList.mapM fun f=>(P.info? f.type).map fun i=>(f.offset,i.size)
 |some (.array n e)=>match P.info? e with
  |some i=>some ((List.range n).map fun k=>(k*i.size,i.size))
  |none=>none
 |_=>none
def cE (place:Nat->Option (Nat×Nat)):List C->List (Nat×AV)->Option (Prop×List C)
 |cs,[]=>some (True,cs)
 |cs,(i,x)::rest=>match place i,cellsOf x with
  |some (off,size),some ds=>match cE place (spl cs off ds) rest with
   |some (p,r)=>some ((ds.length=size/\off+size<=cs.length)/\p,r)
   |none=>none
  |_,_=>none
def sW (st:St) (x:AV):Option (Prop×Nat×Nat×List C):=
 match x with
 | .val (.one (.own nm s' n sz))=>match st.H nm with
  |some B=>some (B.st=s'/\sz≠0,sz,n,B.cs)
  |none=>none
 | .val (.one (.sh sz n cs))=>some (True,sz,n,cs)
 |_=>none
def dh (P:Program) (st:St) (t:TypeId) (parts:Array (Nat×Operand)):Option (Prop×AV):=
 match zrT P t,plT P t with
 |some zs,some ps=>match cE (fun i=>ps[i]?) (zs.map .lit) (parts.toList.map fun q=>(q.1,ev st q.2)) with
  |some (p,r)=>some (p,.val (.agg r))
  |none=>none
 |_,_=>none
def eff (P : Program) (st : St) (d : Nat) : Op → Option (Prop × St)
  | .alloc t => match zrT P t with
    | some zs => some (zs.length ≠ 0, ⟨up st.tm d (.val (.one (.ptr (st.nb + d) st.nx 0))), up st.H (st.nb + d) (some ⟨st.nx, t, zs.length, 1, zs.map .lit⟩), st.nx + 1, st.nb⟩)
    | none => none
  | .box t x => match cellsOf (ev st x) with
    | some cs => some (cs.length ≠ 0, ⟨up st.tm d (.val (.one (.ptr (st.nb + d) st.nx 0))), up st.H (st.nb + d) (some ⟨st.nx, t, cs.length, 1, cs⟩), st.nx + 1, st.nb⟩)
    | none => none
  | .buildSlice t len parts => match elT P t with
    | some (E, sz, _) => match zrT P E with
      | some zs => match cE (fun i => some (i * sz, sz)) (b5 len (zs.map .lit)) (parts.toList.map fun q => (q.1, ev st q.2)) with
        | some (p, r) => some (p ∧ zs.length = sz ∧ 0 < len * sz ∧ len * sz ≤ 16777216 ∧ r.length = len * sz, ⟨up st.tm d (.val (.one (.own (st.nb + d) st.nx len sz))), up st.H (st.nb + d) (some ⟨st.nx, E, sz, len, r⟩), st.nx + 1, st.nb⟩)
        | none => none
      | none => none
    | none => none
  | .makeSlice t l c => match ev st l, ev st c, elT P t with
    | .val (.one (.lit (.int _ n))), .val (.one (.lit (.int _ n'))), some (E, sz, by_) => match zrT P E with
      | some zs => some (n = n' ∧ sz ≠ 0 ∧ zs.length = sz ∧ 0 ≤ n ∧ (by_ : Int) * n ≤ 281474976710656 ∧ n ≤ 4611686018427387904, ⟨up st.tm d (.val (.one (.own (st.nb + d) st.nx n.toNat sz))), up st.H (st.nb + d) (some ⟨st.nx, E, sz, n.toNat, b5 n.toNat (zs.map .lit)⟩), st.nx + 1, st.nb⟩)
      | none => none
    | _, _, _ => none
  | .store t x y => match ev st x, cellsOf (ev st y), ldT P t with
    | .val (.one (.ptr nm s' off)), some ds, some (_, sz) => match st.H nm with
      | some B => some (B.st = s' ∧ ds.length = sz ∧ off + sz ≤ B.cs.length, ⟨st.tm, up st.H nm (some { B with cs := spl B.cs off ds }), st.nx, st.nb⟩)
      | none => none
    | _, _, _ => none
  | .call { callee := .builtin .append, args, argTypes } => match args.toList, argTypes.toList with
    | [s, x], [t, t'] => match elT P t, sW st (ev st x) with
      | some (E, sz, by_), some (q, sz', m, ns) => match ev st s with
        | .val (.one (.own nm s' n sz'')) => match st.H nm with
          | some B => some (q ∧ t = t' ∧ B.st = s' ∧ sz'' = sz ∧ sz' = sz ∧ B.E = E ∧ (zrT P E).map List.length = some sz ∧ 0 < sz ∧ ((n + m) * by_ ≤ 140737488355328 ∧ n + m ≤ 4611686018427387904),
              ⟨up st.tm d (.val (.one (.own (st.nb + d) st.nx (n + m) sz))), up (up st.H nm none) (st.nb + d) (some ⟨st.nx, E, sz, n + m, B.cs ++ ns⟩), st.nx + 1, st.nb⟩)
          | none => none
        | .val (.one (.lit (.slice none 0 0))) => some (q ∧ t = t' ∧ sz' = sz ∧ (zrT P E).map List.length = some sz ∧ 0 < sz ∧ (m * by_ ≤ 140737488355328 ∧ m ≤ 4611686018427387904),
              ⟨up st.tm d (.val (.one (.own (st.nb + d) st.nx m sz))), up st.H (st.nb + d) (some ⟨st.nx, E, sz, m, ns⟩), st.nx + 1, st.nb⟩)
        | _ => none
      | _, _ => none
    | _, _ => none
  | _ => none
theorem j4 (off:Nat):∀(l:List Value) (k:Nat) (arr:Array Value),off+k+l.length<=arr.size->
  ((l.zipIdx k).foldl (fun cs (x:Value×Nat)=>cs.setIfInBounds (off+x.2) x.1) arr).toList=arr.toList.take (off+k)++l++arr.toList.drop (off+k+l.length)
 |[],k,arr,_=>by simp
 |v::l,k,arr,h=>by
  simp only [List.length_cons] at h;rw [List.zipIdx_cons,List.foldl_cons,j4 off l (k+1) (arr.setIfInBounds (off+k) v) (by simp;omega)];simp only [Array.toList_setIfInBounds,List.length_cons];apply List.ext_getElem?;intro i;have hl:off+k<arr.toList.length:=by simp;omega
  rcases Nat.lt_trichotomy i (off+k) with h1|h1|h1
  ·rw [List.append_assoc,List.append_assoc,List.getElem?_append_left (by simp;omega),List.getElem?_append_left (by simp;omega),List.getElem?_take,List.getElem?_take,if_pos (by omega),if_pos (by omega),List.getElem?_set_ne (by omega)]
  ·subst h1;rw [List.append_assoc,List.append_assoc,List.getElem?_append_left (by simp;omega),List.getElem?_take,if_pos (by omega),List.getElem?_set_self hl,List.getElem?_append_right (by simp;omega)];simp [show min (off+k) arr.size=off+k by omega]
  have e1:(List.take (off+(k+1)) (arr.toList.set (off+k) v)).length=off+k+1:=by simp;omega
  have e2:(List.take (off+k) arr.toList).length=off+k:=by simp;omega
  rw [List.append_assoc,List.append_assoc,List.getElem?_append_right (l₁:=List.take (off+(k+1)) (arr.toList.set (off+k) v)) (by omega),List.getElem?_append_right (l₁:=List.take (off+k) arr.toList) (by omega),e1,e2];rw [show i-(off+k)=(i-(off+k+1))+1 by omega,List.cons_append,List.getElem?_cons_succ];rcases Nat.lt_or_ge (i-(off+k+1)) l.length with h2|h2
  ·rw [List.getElem?_append_left h2,List.getElem?_append_left h2]
  rw [List.getElem?_append_right h2,List.getElem?_append_right h2,List.getElem?_drop,List.getElem?_drop,List.getElem?_set_ne (by omega)];congr 1;omega
theorem po (off:Nat) (v arr:Array Value) (h:off+v.size<=arr.size):
  (v.zipIdx.foldl (fun cs (x:Value×Nat)=>cs.setIfInBounds (off+x.2) x.1) arr).toList=spl arr.toList off v.toList:=by
 rw [←Array.foldl_toList,Array.toList_zipIdx];have:=j4 off v.toList 0 arr (by simpa using h);simpa [spl] using this
theorem fF {κ:Kx} {v:Value} {x:AV} {ds:List C} (h:ak κ v x) (hx:cellsOf x=some ds):denVs κ v.cells.toList ds:=by
 cases x<;>simp [cellsOf] at hx;subst hx;exact mZ h
theorem e7 {κ:Kx} {place:Nat->Option (Nat×Nat)}:∀(parts:List (Nat×AV)) (vs:List (Nat×Value)) (cs:List C) (arr:Array Value) {p:Prop} {r:List C},
  vs.map (·.1)=parts.map (·.1)->(∀i (h:i<vs.length) (h':i<parts.length),ak κ vs[i].2 parts[i].2)->denVs κ arr.toList cs->cE place cs parts=some (p,r)->p->∃arr',Instr.fill place arr vs=some arr'/\denVs κ arr'.toList r
 |[],[],cs,arr,p,r,_,_,hd,h,hp=>by
  simp only [cE,Option.some.injEq,Prod.mk.injEq] at h;obtain ⟨rfl,rfl⟩:=h;exact ⟨arr,rfl,hd⟩
 |[],_::_,_,_,_,_,h,_,_,_,_=>by simp at h
 |_::_,[],_,_,_,_,h,_,_,_,_=>by simp at h
 |(i,x)::parts,(i',v)::vs,cs,arr,p,r,hi,hv,hd,h,hp=>by
  simp only [List.map_cons,List.cons.injEq] at hi;obtain ⟨rfl,hi⟩:=hi;simp only [cE] at h;split at h<;>try (cases h;done)
  rename_i off size ds hpl hc;split at h<;>try (cases h;done)
  rename_i q r' hf;simp only [Option.some.injEq,Prod.mk.injEq] at h;obtain ⟨rfl,rfl⟩:=h;obtain ⟨⟨h1,h2⟩,h3⟩:=hp;have hv0:ak κ v x:=hv 0 (by simp) (by simp);have hdc:=fF hv0 hc;have hsz:v.cells.size=size:=by have:=hdc.length;simpa [h1] using this
  have hal:arr.size=cs.length:=by simpa using hd.length
  have hle:off+v.cells.size<=arr.size:=by omega
  obtain ⟨arr',g1,g2⟩:=e7 parts vs (spl cs off ds) (v.cells.zipIdx.foldl (fun cs (x:Value×Nat)=>cs.setIfInBounds (off+x.2) x.1) arr) hi (fun j hj hj'=>hv (j+1) (by simpa using hj) (by simpa using hj')) (by rw [po _ _ _ hle];exact j3 hd hdc off) hf h3;refine ⟨arr',?_,g2⟩;simp only [Instr.fill,hpl];rw [if_neg (by simp [hsz];omega)];exact g1
section
variable {P : Program} {e : En} {N : Nat} {st : St} {a : Act} {w : World} {σ : Nat → Value} {o : Oper} {p : Prop} {x : AV}
theorem fa {t:TypeId} {zs:List Value} (h:zrT P t=some zs):∃z,z.cells.toList=zs/\zs.all Value.oneCell'=true/\∀w,(zeroValue t).run P w= .ok z w:=by
 unfold zrT at h;split at h<;>try (cases h;done)
 rename_i v hv;split at h<;>try (cases h;done)
 rename_i h1;obtain rfl:=Option.some.inj h;refine ⟨v,rfl,h1,fun w=>?_⟩;cases hi:P.info? t with
 |none=>rw [hi] at hv;cases hv
 |some i=>
  rw [hi] at hv;have hz:i.zero=some v:=by simpa using hv
  simp [zeroValue,typeInfo,hi,hz]
theorem cX (ht:∀t,ak (kx e st.H st.nx σ w) (a.tmps.getD t undef) (st.tm t)) (l:List (Nat×Operand)):
  (l.map fun q=>(q.1,a.eval q.2)).map (·.1)=(l.map fun q=>(q.1,ev st q.2)).map (·.1)/\
  ∀i (h:i<(l.map fun q=>(q.1,a.eval q.2)).length) (h':i<(l.map fun q=>(q.1,ev st q.2)).length),ak (kx e st.H st.nx σ w) (l.map fun q=>(q.1,a.eval q.2))[i].2 (l.map fun q=>(q.1,ev st q.2))[i].2:=by
 refine ⟨by simp [List.map_map,Function.comp_def],fun i h h'=>?_⟩;simp only [List.getElem_map];exact ao ht _
theorem m5 {fs:List Field} {ps:List (Nat×Nat)} (h:(fs.mapM fun f=>(P.info? f.type).map fun i=>(f.offset,i.size))=some ps) (w:World):
  (fs.mapM fun f=>do pure (f.offset,←sizeOf f.type):Sem (List (Nat×Nat))).run P w= .ok ps w:=by
 induction fs generalizing ps with
 |nil=>simp at h;subst h;rfl
 |cons f fs ih=>
  simp only [List.mapM_cons,Option.bind_eq_bind,Option.bind_eq_some_iff,Option.pure_def,Option.some.injEq] at h;obtain ⟨q,h1,qs,h2,rfl⟩:=h;rw [Option.map_eq_some_iff] at h1;obtain ⟨i,h3,rfl⟩:=h1;simp [List.mapM_cons,sizeOf,typeInfo,h3];have:=ih h2;simp [sizeOf,typeInfo] at this;rw [this];rfl
theorem iV {place place':Nat->Option (Nat×Nat)} (hpp:∀j q,place j=some q->place' j=some q):∀{parts:List (Nat×AV)} {cs r:List C} {p:Prop},cE place cs parts=some (p,r)->cE place' cs parts=some (p,r)
 |[],_,_,_,h=>h
 |(i,x)::rest,cs,r,p,h=>by
  simp only [cE] at h ⊢;split at h<;>try (cases h;done)
  rename_i off size ds h1 h2;rw [hpp _ _ h1,h2];simp only;split at h<;>try (cases h;done)
  rename_i q r' h3;rw [iV hpp h3];exact h
theorem jO {t:TypeId} {parts:Array (Nat×Operand)} (ht:∀t,ak (kx e st.H st.nx σ w) (a.tmps.getD t undef) (st.tm t)) (hop:o.op= .build t parts) (h:dh P st t parts=some (p,x)) (hp:p):Yl P o a w (kx e st.H st.nx σ w) x:=by
 unfold dh at h;split at h<;>try (cases h;done)
 rename_i zs ps hz hpl;split at h<;>try (cases h;done)
 rename_i q r hf;simp only [Option.some.injEq,Prod.mk.injEq] at h;obtain ⟨rfl,rfl⟩:=h;obtain ⟨z,h1,h2,h3⟩:=fa hz;obtain ⟨k1,k2⟩:=cX ht parts.toList;have hd0:denVs (kx e st.H st.nx σ w) z.cells.toList (zs.map .lit):=by rw [h1];exact bP _ _ h2
 unfold plT at hpl;split at hpl<;>try (cases hpl;done)
 rotate_left
 ·rename_i n E hu;split at hpl<;>try (cases hpl;done)
  rename_i i hi;obtain rfl:=Option.some.inj hpl;have hf':=iV (place':=fun j=>some (j*i.size,i.size)) (fun j q hq=>by
   simp only [List.getElem?_map,Option.map_eq_some_iff] at hq;obtain ⟨k,hk,rfl⟩:=hq;have:=List.getElem?_eq_some_iff.1 hk;obtain ⟨h8,h9⟩:=this;simp only [List.getElem_range] at h9;rw [h9]) hf
  obtain ⟨arr',g1,g2⟩:=e7 (place:=fun j=>some (j*i.size,i.size)) _ _ _ z.cells k1 k2 hd0 hf' hp;refine ⟨.agg arr',fun w' _=>?_,⟨arr'.toList,by simp,g2⟩⟩;have g1':Instr.fill (fun j=>some (j*i.size,i.size)) z.cells ((parts.map fun q=>(q.1,a.eval q.2)).toList)=some arr':=by simpa using g1
  have hs:(sizeOf E).run P w'= .ok i.size w':=by simp [sizeOf,typeInfo,hi]
  simp only [execOp,hop,Sem.run_bind,Instr.build,h3 w',Result.andThen_ok,run_underlying hu,hs,g1',Sem.run_pure]
 obtain ⟨arr',g1,g2⟩:=e7 (place:=fun i=>ps[i]?) _ _ _ z.cells k1 k2 hd0 hf hp;rename_i fs hu;refine ⟨.agg arr',fun w' _=>?_,⟨arr'.toList,by simp,g2⟩⟩;have hpr:=m5 hpl w';have hpr2:(fs.mapM fun f=>do pure (f.offset,←sizeOf f.type):Sem (Array (Nat×Nat))).run P w'= .ok ps.toArray w':=by
  rw [Array.mapM_eq_mapM_toList];simp only [Sem.run_map,hpr,Result.andThen_ok]
 have g1':Instr.fill (fun i=>ps.toArray[i]?) z.cells ((parts.map fun q=>(q.1,a.eval q.2)).toList)=some arr':=by
  simpa using g1
 simp only [execOp,hop,Sem.run_bind,Instr.build,h3 w',Result.andThen_ok,run_underlying hu,hpr2,g1',Sem.run_pure]
end
end Go.Proofs.YtclkgcigacbmiaaGreatDoor
