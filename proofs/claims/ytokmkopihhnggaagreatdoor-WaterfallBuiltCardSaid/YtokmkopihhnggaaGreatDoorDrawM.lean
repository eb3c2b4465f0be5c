/- Regions that draw their order, by a schedule: operations that neither write nor make memory are taken ahead of those that only make memory; the last ones come in one order. No program in sight. -/
import Derived.OrdersHeld
import Derived.Below
set_option linter.unusedVariables false
set_option linter.unusedSimpArgs false
set_option linter.unusedSectionVars false
namespace Go.Proofs.YtokmkopihhnggaaGreatDoor
open Go Go.RowKit
def FL (w w':World):Prop:=w.heap.size<=w'.heap.size/\∀b,b<w.heap.size->w'.heap[b]? =w.heap[b]?
theorem FL.refl (w:World):FL w w:=⟨Nat.le_refl _,fun _ _=>rfl⟩
theorem FL.trans {a b c:World} (h:FL a b) (k:FL b c):FL a c:=⟨Nat.le_trans h.1 k.1,fun i hi=>(k.2 i (Nat.lt_of_lt_of_le hi h.1)).trans (h.2 i hi)⟩
theorem FL.of_below {w w':World} (h:Below w.heap.size w w'):FL w w':=⟨h.size,fun b hb=>h.block b hb⟩
theorem FL.cell {w w':World} {p:Addr} (h:FL w w') (hc:(w.cell? p).isSome=true):w'.cell? p=w.cell? p:=by
 have hb:p.block<w.heap.size:=by
  unfold World.cell? at hc;rcases Nat.lt_or_ge p.block w.heap.size with h|h
  ·exact h
  simp [Array.getElem?_eq_none h] at hc
 unfold World.cell?;rw [h.2 _ hb]
theorem FL.alloc (w:World) (o:Obj):FL w (w.alloc o):=FL.of_below ((Below.refl _ _).alloc (Nat.le_refl _) _)
section
variable {P : Program} {ops : Array Oper} {Q : Exit → Act → World → Prop} {md : Region.Mode} {F : Nat → Bool}
def wpD (P:Program) (md:Region.Mode) (ops:Array Oper) (Q:Exit->Act->World->Prop) (F:Nat->Bool):Nat->Array Bool->Act->World->Prop
 |0,listed,a,w=>Region.ready md ops listed=[]/\Q .normal a w
 |fuel+1,listed,a,w=>
  (Region.ready md ops listed=[]->Q .normal a w)/\
  ∀i∈Region.ready md ops listed,wpOp P ops Q i (fun a' w'=>(F i=true->FL w w')/\wpD P md ops Q F fuel (listed.setIfInBounds i true) a' w') a w
theorem lX:∀(fuel:Nat) (listed:Array Bool) (a:Act) (w:World),wpD P md ops Q F fuel listed a w->wpAny P md ops Q fuel listed a w
 |0,_,_,_,h=>h
 |fuel+1,_,_,_,h=>⟨h.1,fun i hi=>wpOp_mono (fun a' w' h'=>lX fuel _ a' w' h'.2) (h.2 i hi)⟩
theorem ga {S S':World->Prop} {o:Oper} {v:Value} {a:Act} (hs:∀w,S' w->S w) (h:YieldsIf P ops S o v a):YieldsIf P ops S' o v a:=
 h.imp (fun ⟨h1,h2⟩=>⟨h1,fun w hw=>h2 w (hs w hw)⟩) id
def gQ (md:Region.Mode) (ops:Array Oper) (i:Nat):Nat->Nat->Bool
 |0,_=>false
 |n+1,j=>match ops[j]? with
  |none=>false
  |some o=>o.after.any fun e=>Region.binds md e&&(e.on==i||gQ md ops i n e.on)
def Closed (md:Region.Mode) (ops:Array Oper) (listed:Array Bool):Prop:=
 listed.size=ops.size/\∀(k:Nat) (o:Oper),ops[k]? =some o->listed.getD k false=true->∀e∈o.after,Region.binds md e=true->listed.getD e.on false=true
theorem Closed.start:Closed md ops (Array.replicate ops.size false):=by
 refine ⟨by simp,fun k o _ h=>?_⟩;by_cases hk:k<ops.size<;>simp [hk] at h
theorem Closed.set {i:Nat} {listed:Array Bool} (h:Closed md ops listed) (hr:i∈Region.ready md ops listed):Closed md ops (listed.setIfInBounds i true):=by
 refine ⟨by simpa using h.1,fun k o ho hl e he hb=>?_⟩;by_cases hk:k=i
 ·subst hk;obtain ⟨_,o',ho',hall⟩:=mem_ready.1 hr;obtain rfl:o'=o:=Option.some.inj (ho'.symm.trans ho);exact getD_set_true (hall e he hb)
 rw [getD_set_ne false (fun e=>hk e.symm)] at hl;exact getD_set_true (h.2 k o ho hl e he hb)
theorem pP {i:Nat} {listed:Array Bool} (hc:Closed md ops listed):∀(n j:Nat),listed.getD j false=true->gQ md ops i n j=true->listed.getD i false=true:=by
 intro n;induction n with
 |zero=>intro j _ h;simp [gQ] at h
 |succ n ih=>
  intro j hj h;unfold gQ at h;split at h
  ·cases h
  rename_i o ho;obtain ⟨e,he,h⟩:=Array.any_eq_true'.1 h;simp only [Bool.and_eq_true,Bool.or_eq_true,beq_iff_eq] at h;have hl:=hc.2 j o ho hj e he h.1;rcases h.2 with h2|h2
  ·rw [←h2];exact hl
  exact ih _ hl h2
theorem rU {i:Nat} {listed:Array Bool} (hc:Closed md ops listed) (n j:Nat) (hj:j∈Region.ready md ops listed) (h:gQ md ops i n j=true):listed.getD i false=true:=by
 obtain ⟨_,o,ho,hall⟩:=mem_ready.1 hj;cases n with
 |zero=>simp [gQ] at h
 |succ n=>
  unfold gQ at h;simp only [ho] at h;obtain ⟨e,he,h⟩:=Array.any_eq_true'.1 h;simp only [Bool.and_eq_true,Bool.or_eq_true,beq_iff_eq] at h;have hl:=hall e he h.1;rcases h.2 with h2|h2
  ·rw [←h2];exact hl
  exact pP hc n _ hl h2
theorem lY {listed:Array Bool} {i:Nat} (h:listed.getD i true=false) (h':listed.getD i false=true):False:=by
 rcases Nat.lt_or_ge i listed.size with hi|hi
 ·simp [hi] at h h';rw [h] at h';cases h'
 simp [hi] at h
def Dt (md:Region.Mode) (ops:Array Oper) (F:Nat->Bool) (listed:Array Bool) (i:Nat):Bool:=
 (List.range ops.size).all fun j=>j==i||listed.getD j true||F j||gQ md ops i ops.size j
theorem sE {i N:Nat} {oi:Oper} {v:Value} (hi:ops[i]? =some oi) (hsel:∀(j:Nat) (o:Oper) cs b,ops[j]? =some o->o.op≠ .select cs b)
  (hQ:∀c a w,Q (.panic c) (a.put oi.dst v) w->Q (.panic c) a w):
  ∀(fuel:Nat) (listed:Array Bool) (a:Act) (w:World),Closed md ops listed->
   (∀j oj,ops[j]? =some oj->j≠i->listed.getD j true=false->(∀e∈oj.after,Region.binds md e=true->e.on≠i)->oi.apart ops oj=true)->
   (∀j oj,ops[j]? =some oj->j≠i->listed.getD j true=false->F j=true∨gQ md ops i N j=true)->
   i∈Region.ready md ops listed->YieldsIf P ops (FL w) oi v a->
   wpD P md ops Q F fuel (listed.setIfInBounds i true) (a.put oi.dst v) w->wpD P md ops Q F (fuel+1) listed a w:=by
 intro fuel;induction fuel with
 |zero=>
  intro listed a w _ _ _ hr hy H;refine ⟨fun h=>(by rw [h] at hr;cases hr),fun j hj=>?_⟩;by_cases hji:j=i
  ·subst hji;exact hy.wpOp hi (FL.refl w) ⟨fun _=>FL.refl w,H⟩
  have:=ready_mono hj hji;rw [H.1] at this;cases this
 |succ fuel ih=>
  intro listed a w hc hfree hearly hr hy H;refine ⟨fun h=>(by rw [h] at hr;cases hr),fun j hj=>?_⟩;by_cases hji:j=i
  ·subst hji;exact hy.wpOp hi (FL.refl w) ⟨fun _=>FL.refl w,H⟩
  have h1:=H.2 j (ready_mono hj hji);obtain ⟨hjun,oj,hoj,hall⟩:=mem_ready.1 hj;have hnot:∀e∈oj.after,Region.binds md e=true->e.on≠i:=fun e he hb heq=>by
   have h1:=hall e he hb;rw [heq] at h1;exact lY (mem_ready.1 hr).1 h1
  have hF:F j=true:=by
   rcases hearly j oj hoj hji hjun with h|h
   ·exact h
   exact (lY (mem_ready.1 hr).1 (rU hc _ _ hj h)).elim
  have h2:=wpOp_putIf hoj (hfree j oj hoj hji hjun hnot) (fun cs b=>hsel i oi cs b hi) (fun cs b=>hsel j oj cs b hoj) hQ hy h1;have sub:∀k,(listed.setIfInBounds j true).getD k true=false->listed.getD k true=false:=fun k h=>by
   by_cases hjk:j=k
   ·subst hjk;exact hjun
   rw [getD_set_ne true hjk] at h;exact h
  refine wpOp_mono (fun a' w' h3=>⟨h3.2.1,ih (listed.setIfInBounds j true) a' w' (hc.set hj) (fun k ok hk hki hun hno=>hfree k ok hk hki (sub k hun) hno) (fun k ok hk hki hun=>hearly k ok hk hki (sub k hun)) (ready_mono hr (Ne.symm hji)) (ga (fun _ h=>(h3.2.1 hF).trans h) h3.1) ?_⟩) h2;rw [Array.setIfInBounds_comm _ _ hji];exact h3.2.2
def lZ (md:Region.Mode) (ops:Array Oper) (F:Nat->Bool):List (Nat×Bool)->Array Bool->Bool
 |[],listed=>(Region.ready md ops listed).isEmpty
 |(i,true)::r,listed=>(Region.ready md ops listed).contains i&&Region.free md ops listed i&&Dt md ops F listed i&&lZ md ops F r (listed.setIfInBounds i true)
 |(i,false)::r,listed=>decide (Region.ready md ops listed=[i])&&lZ md ops F r (listed.setIfInBounds i true)
def wpS (P:Program) (ops:Array Oper) (Q:Exit->Act->World->Prop) (F:Nat->Bool):List (Nat×Bool)->Act->World->Prop
 |[],a,w=>Q .normal a w
 |(i,true)::r,a,w=>∃o v,ops[i]? =some o/\YieldsIf P ops (FL w) o v a/\wpS P ops Q F r (a.put o.dst v) w
 |(i,false)::r,a,w=>wpOp P ops Q i (fun a' w'=>(F i=true->FL w w')/\wpS P ops Q F r a' w') a w
theorem pQ (hs:Region.noSelect ops=true) (hQ:∀c a d v w,Q (.panic c) (Act.put a d v) w->Q (.panic c) a w):∀(s:List (Nat×Bool)) (listed:Array Bool) (a:Act) (w:World),Closed md ops listed->lZ md ops F s listed=true->
  wpS P ops Q F s a w->wpD P md ops Q F s.length listed a w
 |[],listed,a,w,_,hB,h=>⟨by simpa [lZ] using hB,h⟩
 |(i,true)::r,listed,a,w,hc,hB,h=>by
  simp only [lZ,Bool.and_eq_true] at hB;obtain ⟨⟨⟨h1,h2⟩,h3⟩,h4⟩:=hB;obtain ⟨o,v,ho,hy,hr⟩:=h;have hrd:i∈Region.ready md ops listed:=by simpa using h1
  refine sE (N:=ops.size) ho (Region.noSelect_spec hs) (fun c a w=>hQ c a o.dst v w) r.length listed a w hc (Region.free_spec ho h2) (fun j oj hj hne hun=>?_) hrd hy (pQ hs hQ r _ _ _ (hc.set hrd) h4 hr);have hlt:j<ops.size:=(Array.getElem?_eq_some_iff.1 hj).1;have:=List.all_eq_true.1 h3 j (List.mem_range.2 hlt);simpa [hne,hun] using this
 |(i,false)::r,listed,a,w,hc,hB,h=>by
  simp only [lZ,Bool.and_eq_true,decide_eq_true_eq] at hB;refine ⟨fun h0=>(by rw [hB.1] at h0;cases h0),fun j hj=>?_⟩;have hj':=hj;rw [hB.1] at hj;obtain rfl:j=i:=by simpa using hj
  exact wpOp_mono (fun a' w' h'=>⟨h'.1,pQ hs hQ r _ a' w' (hc.set hj') hB.2 h'.2⟩) h
theorem jV {id:Nat} {a:Act} {w:World} (hm:P.follows .mixedOrders=true) (s:List (Nat×Bool)) (F:Nat->Bool)
  (hB:(Region.noSelect ops&&decide (s.length=ops.size)&&lZ .any ops F s (Array.replicate ops.size false))=true)
  (hQ:∀c a d v w,Q (.panic c) (Act.put a d v) w->Q (.panic c) a w) (h:wpS P ops Q F s a w.drew):(Code.region id ops true).wp P Q a w:=by
 simp only [Bool.and_eq_true,decide_eq_true_eq] at hB;obtain ⟨⟨h1,h2⟩,h3⟩:=hB;refine wp_region_any hm (lX (F:=F) _ _ _ _ ?_);rw [←h2];have:=pQ (P:=P) (md:= .any) h1 hQ s (Array.replicate ops.size false) a w.drew Closed.start h3 h;rw [←h2] at this;exact this
theorem b9 {i:Nat} {o:Oper} {v:Value} {a a':Act} {w:World} {r:List (Nat×Bool)} (hi:ops[i]? =some o) (hy:YieldsIf P ops (FL w) o v a) (ha:a.put o.dst v=a') (h:wpS P ops Q F r a' w):wpS P ops Q F ((i,true)::r) a w:=
 ⟨o,v,hi,hy,ha▸h⟩
theorem ep {i:Nat} {o:Oper} {a:Act} {w:World} {r:List (Nat×Bool)} (hi:ops[i]? =some o) (hw:Region.wanted o (yielded ops a.tmps)=true) (hF:F i=true)
  (h:∀K:Act->World->Prop,(∀a' w',FL w w'->wpS P ops Q F r a' w'->K a' w')->o.wp P a w K Q):wpS P ops Q F ((i,false)::r) a w:=by
 show wpOp P ops Q i _ a w;unfold wpOp;simp only [hi,hw,if_true];exact .inl (h _ fun a' w' h1 h2=>⟨fun _=>h1,h2⟩)
theorem zO:∀(l:List Oper) (k:Nat) (a:Act) (w:World),(∀j,j<l.length->l[j]? =ops[k+j]?)->(∀j,k<=j->F j=false)->wpList P ops Q l a w->wpS P ops Q F ((List.range' k l.length).map (·,false)) a w
 |[],_,_,_,_,_,h=>h
 |o::l,k,a,w,hl,hF,h=>by
  have h0:ops[k]? =some o:=by simpa using (hl 0 (by simp)).symm
  have hw:wpOp P ops Q k (wpList P ops Q l) a w:=by unfold wpOp;simp only [h0];exact h
  show wpOp P ops Q k _ a w;exact wpOp_mono (fun a' w' h'=>⟨fun hf=>(by rw [hF k (Nat.le_refl _)] at hf;cases hf),zO l (k+1) a' w' (fun j hj=>by have:=hl (j+1) (by simp;omega);simpa [Nat.add_assoc,Nat.add_comm 1 j] using this) (fun j hj=>hF j (by omega)) h'⟩) hw
theorem vM (k:Nat) {a:Act} {w:World} (hF:∀j,k<=j->F j=false) (h:wpList P ops Q (ops.toList.drop k) a w):wpS P ops Q F ((List.range' k (ops.toList.drop k).length).map (·,false)) a w:=
 zO _ k a w (fun j _=>by simp) hF h
end
end Go.Proofs.YtokmkopihhnggaaGreatDoor
