/- Blocks of a call's own whose cells are known, as one list. -/
import Derived.Test.YtokmkopihhnggaaGreatDoorJfM
import Derived.Test.YtokmkopihhnggaaGreatDoorDrawM
set_option linter.unusedVariables false
set_option linter.unusedSimpArgs false
set_option linter.unusedSectionVars false
namespace Go.Proofs.YtokmkopihhnggaaGreatDoor
open Go.RowKit
def BK (w0 w:World) (L:List (Nat×TypeId×List Value)):Prop:=
 Below w0.heap.size w0 w/\(∀p∈L,w0.heap.size<=p.1/\w.heap[p.1]? =some (.cells p.2.2.toArray p.2.1 (0,0)))/\(L.map Prod.fst).Nodup
section
variable {w0 w : World} {L : List (Nat × TypeId × List Value)}
theorem BK.nil (w:World):BK w w []:=⟨Below.refl _ _,fun _ h=>(by cases h),List.nodup_nil⟩
theorem BK.lt (h:BK w0 w L) {p:Nat×TypeId×List Value} (hp:p∈L):p.1<w.heap.size:=(Array.getElem?_eq_some_iff.1 (h.2.1 p hp).2).1
theorem BK.next {w':World} (h:BK w0 w L) (hb:Below w.heap.size w w'):BK w0 w' L:=
 ⟨h.1.trans (hb.mono h.1.size),fun p hp=>⟨(h.2.1 p hp).1,by rw [hb.block p.1 (h.lt hp)];exact (h.2.1 p hp).2⟩,h.2.2⟩
theorem BK.drew (h:BK w0 w L):BK w0 w.drew L:=⟨Below.drew h.1,h.2.1,h.2.2⟩
theorem BK.alloc (h:BK w0 w L) (o:Obj):BK w0 (w.alloc o) L:=h.next ((Below.refl _ _).alloc (Nat.le_refl _) _)
theorem BK.push (h:BK w0 w L) (T:TypeId) (cs:List Value) {b:Nat} (hb:w.heap.size=b):BK w0 (w.alloc (.cells cs.toArray T)) ((b,T,cs)::L):=by
 subst hb;refine ⟨(h.alloc _).1,fun p hp=>?_,?_⟩
 ·rcases List.mem_cons.1 hp with rfl|hp
  ·exact ⟨h.1.size,heap_alloc_new w _⟩
  exact (h.alloc _).2.1 p hp
 rw [List.map_cons,List.nodup_cons];refine ⟨fun hm=>?_,h.2.2⟩;obtain ⟨p,hp,he⟩:=List.mem_map.1 hm;have h1:=h.lt hp;rw [he] at h1;exact Nat.lt_irrefl _ h1
theorem BK.cell (h:BK w0 w L) (i:Nat) {b:Nat} {T:TypeId} {cs:List Value} (hi:L[i]? =some (b,T,cs)):
  (∀j v,cs[j]? =some v->w.cell? ⟨b,j,none⟩=some v)/\(∀j,w.frozen? ⟨b,j,none⟩=false)/\b<w.heap.size/\w0.heap.size<=b:=by
 have hm:=List.mem_of_getElem? hi;have h1:=(h.2.1 _ hm).2;refine ⟨fun j v hv=>?_,fun j=>?_,h.lt hm,(h.2.1 _ hm).1⟩
 ·simp only [World.cell?,h1];simpa using hv
 simp [World.frozen?,h1]
theorem BK.set (h:BK w0 w L) (i:Nat) {b:Nat} {T:TypeId} {cs:List Value} (hi:L[i]? =some (b,T,cs)) (j:Nat) (v:Value):BK w0 (w.setCell ⟨b,j,none⟩ v) (L.set i (b,T,cs.set j v)):=by
 have hil:i<L.length:=(List.getElem?_eq_some_iff.1 hi).1;have hig:L[i]=(b,T,cs):=(List.getElem?_eq_some_iff.1 hi).2;have hm:=List.mem_of_getElem? hi;have hbb:=(h.2.1 _ hm);refine ⟨h.1.setCell hbb.1 _,fun p hp=>?_,?_⟩
 ·obtain ⟨k,hk,rfl⟩:=List.getElem_of_mem hp;rw [List.length_set] at hk;by_cases e:i=k
  ·subst e;rw [List.getElem_set_self];refine ⟨hbb.1,?_⟩;rw [heap_setCell_same w b j _ T v hbb.2];simp
  rw [List.getElem_set_ne e];have hmk:=List.getElem_mem hk;refine ⟨(h.2.1 _ hmk).1,?_⟩;rw [Below.heap_setCell _ _ _ _ (fun e2=>?_)]
  ·exact (h.2.1 _ hmk).2
  have hn:=List.nodup_iff_pairwise_ne.1 h.2.2;have:=(List.pairwise_iff_getElem.1 hn);rcases Nat.lt_trichotomy i k with h1|h1|h1
  ·have:=this i k (by simpa using hil) (by simpa using hk) h1;simp only [List.getElem_map,hig] at this;exact this e2.symm
  ·exact e h1
  have:=this k i (by simpa using hk) (by simpa using hil) h1;simp only [List.getElem_map,hig] at this;exact this e2
 have:(L.set i (b,T,cs.set j v)).map Prod.fst=L.map Prod.fst:=by
  rw [List.map_set];apply List.ext_getElem (by simp);intro j h1 h2;rw [List.getElem_set];split
  ·rename_i e;subst e;simp [hig]
  rfl
 rw [this];exact h.2.2
theorem BK.put3 (h:BK w0 w L) (i:Nat) {b:Nat} {T:TypeId} {cs:List Value} (hi:L[i]? =some (b,T,cs)) (j:Nat) (x y z:Value):
  BK w0 (((w.setCell ⟨b,j,none⟩ x).setCell ⟨b,j+1,none⟩ y).setCell ⟨b,j+2,none⟩ z) (L.set i (b,T,((cs.set j x).set (j+1) y).set (j+2) z)):=by
 have hil:i<L.length:=(List.getElem?_eq_some_iff.1 hi).1;have h1:=h.set i hi j x;have h2:=h1.set i (cs:=cs.set j x) (by rw [List.getElem?_set_self hil]) (j+1) y;rw [List.set_set] at h2;have h3:=h2.set i (cs:=(cs.set j x).set (j+1) y) (by rw [List.getElem?_set_self hil]) (j+2) z;rw [List.set_set] at h3;exact h3
end
theorem Ev {P:Program} {fn:Func} {R:Ending->World->Prop} {a:Act} {w0 W:World} {L:List (Nat×TypeId×List Value)} (V:Value) (h:BK w0 W L) (i:Nat) {b:Nat} {T:TypeId} {cs:List Value} (hi:L[i]? =some (b,T,cs))
  (hres:∀W',(∀j v,cs[j]? =some v->W'.cell? ⟨b,j,none⟩=some v)->(results fn a.tmps).run P W'= .ok V W') (hd:a.defers=[]) (hR:R (.returned V) W):bodyPost P fn R .ret a W:=
 bodyPost_ret (hres W (BK.cell h i hi).1) hd hR
end Go.Proofs.YtokmkopihhnggaaGreatDoor
