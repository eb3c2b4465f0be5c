/- Blocks of a call's own whose cells are known, as one list. -/
import Derived.Test.YtgmedcncbpdimaaDoorBaseM
import Derived.Test.YtgmedcncbpdimaaDoorDrawM
set_option linter.unusedVariables false
set_option linter.unusedSimpArgs false
set_option linter.unusedSectionVars false
section
/- Blocks of a call's own whose cells are known, as one list. -/
namespace Go.Proofs.YtgmedcncbpdimaaDoor
open Go.RowKit

/-- The call's blocks: number, type of element, cells; nothing below w0's heap has changed. -/
def BK (w0 w : World) (L : List (Nat × TypeId × List Value)) : Prop :=
  Below w0.heap.size w0 w ∧ (∀ p ∈ L, w0.heap.size ≤ p.1 ∧ w.heap[p.1]? = some (.cells p.2.2.toArray p.2.1 (0, 0))) ∧ (L.map Prod.fst).Nodup
section
variable {w0 w : World} {L : List (Nat × TypeId × List Value)}
theorem BK.nil (w : World) : BK w w [] := ⟨Below.refl _ _, fun _ h => (by cases h), List.nodup_nil⟩
theorem BK.lt (h : BK w0 w L) {p : Nat × TypeId × List Value} (hp : p ∈ L) : p.1 < w.heap.size := (Array.getElem?_eq_some_iff.1 (h.2.1 p hp).2).1
theorem BK.next {w' : World} (h : BK w0 w L) (hb : Below w.heap.size w w') : BK w0 w' L :=
  ⟨h.1.trans (hb.mono h.1.size), fun p hp => ⟨(h.2.1 p hp).1, by rw [hb.block p.1 (h.lt hp)]; exact (h.2.1 p hp).2⟩, h.2.2⟩
theorem BK.drew (h : BK w0 w L) : BK w0 w.drew L := ⟨Below.drew h.1, h.2.1, h.2.2⟩
theorem BK.alloc (h : BK w0 w L) (o : Obj) : BK w0 (w.alloc o) L := h.next ((Below.refl _ _).alloc (Nat.le_refl _) _)
theorem BK.sub (h : BK w0 w L) {L' : List (Nat × TypeId × List Value)} (hs : L'.Sublist L) : BK w0 w L' := ⟨h.1, fun p hp => h.2.1 p (hs.subset hp), h.2.2.sublist (hs.map _)⟩
theorem BK.tail {x : Nat × TypeId × List Value} (h : BK w0 w (x :: L)) : BK w0 w L := h.sub (List.sublist_cons_self _ _)
theorem BK.grown {w' : World} (h : BK w0 w L) {B : Nat} (hb : Below B w w') (hB : ∀ e ∈ L, e.1 < B) (hw : w0.heap.size ≤ B) : BK w0 w' L :=
  ⟨h.1.trans (hb.mono hw), fun p hp => ⟨(h.2.1 p hp).1, by rw [hb.block p.1 (hB p hp)]; exact (h.2.1 p hp).2⟩, h.2.2⟩
/-- Behind an append to a row of the call's own that is none of them. -/
theorem BK.appended {w' : World} (h : BK w0 w L) {row : Option Nat} (hg : w.grownBy w' row) (hr : ∀ e ∈ L, row ≠ some e.1) {B : Nat} (hb : Below B w w') (hw : w0.heap.size ≤ B) : BK w0 w' L :=
  ⟨h.1.trans (hb.mono hw), fun p hp => ⟨(h.2.1 p hp).1, by rw [hg.block p.1 (h.lt hp) (fun e => hr p hp e.symm)]; exact (h.2.1 p hp).2⟩, h.2.2⟩
theorem BK.push (h : BK w0 w L) (T : TypeId) (cs : List Value) {b : Nat} (hb : w.heap.size = b) : BK w0 (w.alloc (.cells cs.toArray T)) ((b, T, cs) :: L) := by
  subst hb
  refine ⟨(h.alloc _).1, fun p hp => ?_, ?_⟩
  · rcases List.mem_cons.1 hp with rfl | hp
    · exact ⟨h.1.size, heap_alloc_new w _⟩
    · exact (h.alloc _).2.1 p hp
  · rw [List.map_cons, List.nodup_cons]
    refine ⟨fun hm => ?_, h.2.2⟩
    obtain ⟨p, hp, he⟩ := List.mem_map.1 hm
    have h1 := h.lt hp
    rw [he] at h1
    exact Nat.lt_irrefl _ h1
theorem BK.cell (h : BK w0 w L) (i : Nat) {b : Nat} {T : TypeId} {cs : List Value} (hi : L[i]? = some (b, T, cs)) :
    (∀ j v, cs[j]? = some v → w.cell? ⟨b, j, none⟩ = some v) ∧ (∀ j, w.frozen? ⟨b, j, none⟩ = false) ∧ b < w.heap.size ∧ w0.heap.size ≤ b := by
  have hm := List.mem_of_getElem? hi
  have h1 := (h.2.1 _ hm).2
  refine ⟨fun j v hv => ?_, fun j => ?_, h.lt hm, (h.2.1 _ hm).1⟩
  · simp only [World.cell?, h1]; simpa using hv
  · simp [World.frozen?, h1]
theorem BK.heap (h : BK w0 w L) (i : Nat) {b : Nat} {T : TypeId} {cs : List Value} (hi : L[i]? = some (b, T, cs)) : w.heap[b]? = some (.cells cs.toArray T (0, 0)) := (h.2.1 _ (List.mem_of_getElem? hi)).2
theorem BK.set (h : BK w0 w L) (i : Nat) {b : Nat} {T : TypeId} {cs : List Value} (hi : L[i]? = some (b, T, cs)) (j : Nat) (v : Value) : BK w0 (w.setCell ⟨b, j, none⟩ v) (L.set i (b, T, cs.set j v)) := by
  have hil : i < L.length := (List.getElem?_eq_some_iff.1 hi).1
  have hig : L[i] = (b, T, cs) := (List.getElem?_eq_some_iff.1 hi).2
  have hm := List.mem_of_getElem? hi
  have hbb := (h.2.1 _ hm)
  refine ⟨h.1.setCell hbb.1 _, fun p hp => ?_, ?_⟩
  · obtain ⟨k, hk, rfl⟩ := List.getElem_of_mem hp
    rw [List.length_set] at hk
    by_cases e : i = k
    · subst e
      rw [List.getElem_set_self]
      refine ⟨hbb.1, ?_⟩
      rw [heap_setCell_same w b j _ T v hbb.2]
      simp
    · rw [List.getElem_set_ne e]
      have hmk := List.getElem_mem hk
      refine ⟨(h.2.1 _ hmk).1, ?_⟩
      rw [Below.heap_setCell _ _ _ _ (fun e2 => ?_)]
      · exact (h.2.1 _ hmk).2
      · have hn := List.nodup_iff_pairwise_ne.1 h.2.2
        have := (List.pairwise_iff_getElem.1 hn)
        rcases Nat.lt_trichotomy i k with h1 | h1 | h1
        · have := this i k (by simpa using hil) (by simpa using hk) h1
          simp only [List.getElem_map, hig] at this
          exact this e2.symm
        · exact e h1
        · have := this k i (by simpa using hk) (by simpa using hil) h1
          simp only [List.getElem_map, hig] at this
          exact this e2
  · have : (L.set i (b, T, cs.set j v)).map Prod.fst = L.map Prod.fst := by
      rw [List.map_set]
      apply List.ext_getElem (by simp)
      intro j h1 h2
      rw [List.getElem_set]
      split
      · rename_i e; subst e; simp [hig]
      · rfl
    rw [this]; exact h.2.2
theorem BK.put3 (h : BK w0 w L) (i : Nat) {b : Nat} {T : TypeId} {cs : List Value} (hi : L[i]? = some (b, T, cs)) (j : Nat) (x y z : Value) :
    BK w0 (((w.setCell ⟨b, j, none⟩ x).setCell ⟨b, j + 1, none⟩ y).setCell ⟨b, j + 2, none⟩ z) (L.set i (b, T, ((cs.set j x).set (j + 1) y).set (j + 2) z)) := by
  have hil : i < L.length := (List.getElem?_eq_some_iff.1 hi).1
  have h1 := h.set i hi j x
  have h2 := h1.set i (cs := cs.set j x) (by rw [List.getElem?_set_self hil]) (j + 1) y
  rw [List.set_set] at h2
  have h3 := h2.set i (cs := (cs.set j x).set (j + 1) y) (by rw [List.getElem?_set_self hil]) (j + 2) z
  rw [List.set_set] at h3
  exact h3
theorem BK.other (h : BK w0 w L) {g : Nat} (hg : w0.heap.size ≤ g) (hne : ∀ e ∈ L, e.1 ≠ g) (p : Nat) (v : Value) : BK w0 (w.setCell ⟨g, p, none⟩ v) L :=
  ⟨h.1.setCell hg _, fun e he => ⟨(h.2.1 e he).1, by rw [Below.heap_setCell _ _ _ _ (hne e he)]; exact (h.2.1 e he).2⟩, h.2.2⟩
end

/-- At a return of a value that lies in a block of the call's own. -/
theorem ret_bk {P : Program} {fn : Func} {R : Ending → World → Prop} {a : Act} {w0 W : World} {L : List (Nat × TypeId × List Value)} (V : Value) (h : BK w0 W L) (i : Nat) {b : Nat} {T : TypeId} {cs : List Value} (hi : L[i]? = some (b, T, cs))
    (hres : ∀ W', (∀ j v, cs[j]? = some v → W'.cell? ⟨b, j, none⟩ = some v) → (results fn a.tmps).run P W' = .ok V W') (hd : a.defers = []) (hR : R (.returned V) W) : bodyPost P fn R .ret a W :=
  bodyPost_ret (hres W (BK.cell h i hi).1) hd hR

end Go.Proofs.YtgmedcncbpdimaaDoor
end
section
/- Regions that draw their order, by a schedule that may part in two where two operations may come up. No program in sight. -/
namespace Go.Proofs.YtgmedcncbpdimaaDoor
open Go Go.RowKit

/-- A schedule: done; take i (ahead, or as the only one); part: i or j comes up. -/
inductive Sch where
  | nil : Sch
  | cons : Nat → Bool → Sch → Sch
  | two : Nat → Nat → Sch → Sch → Sch

def Sch.len : Sch → Nat
  | .nil => 0
  | .cons _ _ r => r.len + 1
  | .two _ _ r _ => r.len + 1

section
variable {P : Program} {ops : Array Oper} {Q : Exit → Act → World → Prop} {md : Region.Mode} {F : Nat → Bool}

def schedT (md : Region.Mode) (ops : Array Oper) (F : Nat → Bool) : Sch → Array Bool → Bool
  | .nil, listed => (Region.ready md ops listed).isEmpty
  | .cons i true r, listed => (Region.ready md ops listed).contains i && Region.free md ops listed i && earlyB md ops F listed i && schedT md ops F r (listed.setIfInBounds i true)
  | .cons i false r, listed => decide (Region.ready md ops listed = [i]) && schedT md ops F r (listed.setIfInBounds i true)
  | .two i j r s, listed => decide (Region.ready md ops listed = [i, j]) && decide (r.len = s.len) && schedT md ops F r (listed.setIfInBounds i true) && schedT md ops F s (listed.setIfInBounds j true)

def wpT (P : Program) (ops : Array Oper) (Q : Exit → Act → World → Prop) (F : Nat → Bool) : Sch → Act → World → Prop
  | .nil, a, w => Q .normal a w
  | .cons i true r, a, w => ∃ o v, ops[i]? = some o ∧ YieldsIf P ops (FL w) o v a ∧ wpT P ops Q F r (a.put o.dst v) w
  | .cons i false r, a, w => wpOp P ops Q i (fun a' w' => (F i = true → FL w w') ∧ wpT P ops Q F r a' w') a w
  | .two i j r s, a, w => wpOp P ops Q i (fun a' w' => (F i = true → FL w w') ∧ wpT P ops Q F r a' w') a w ∧ wpOp P ops Q j (fun a' w' => (F j = true → FL w w') ∧ wpT P ops Q F s a' w') a w

theorem wpD_of_T (hs : Region.noSelect ops = true) (hQ : ∀ c a d v w, Q (.panic c) (Act.put a d v) w → Q (.panic c) a w) : ∀ (s : Sch) (listed : Array Bool) (a : Act) (w : World), Closed md ops listed → schedT md ops F s listed = true →
    wpT P ops Q F s a w → wpD P md ops Q F s.len listed a w
  | .nil, listed, a, w, _, hB, h => ⟨by simpa [schedT] using hB, h⟩
  | .cons i true r, listed, a, w, hc, hB, h => by
    simp only [schedT, Bool.and_eq_true] at hB
    obtain ⟨⟨⟨h1, h2⟩, h3⟩, h4⟩ := hB
    obtain ⟨o, v, ho, hy, hr⟩ := h
    have hrd : i ∈ Region.ready md ops listed := by simpa using h1
    refine wpD_first (N := ops.size) ho (Region.noSelect_spec hs) (fun c a w => hQ c a o.dst v w) r.len listed a w hc (Region.free_spec ho h2) (fun j oj hj hne hun => ?_) hrd hy (wpD_of_T hs hQ r _ _ _ (hc.set hrd) h4 hr)
    have hlt : j < ops.size := (Array.getElem?_eq_some_iff.1 hj).1
    have := List.all_eq_true.1 h3 j (List.mem_range.2 hlt)
    simpa [hne, hun] using this
  | .cons i false r, listed, a, w, hc, hB, h => by
    simp only [schedT, Bool.and_eq_true, decide_eq_true_eq] at hB
    refine ⟨fun h0 => (by rw [hB.1] at h0; cases h0), fun j hj => ?_⟩
    have hj' := hj
    rw [hB.1] at hj
    obtain rfl : j = i := by simpa using hj
    exact wpOp_mono (fun a' w' h' => ⟨h'.1, wpD_of_T hs hQ r _ a' w' (hc.set hj') hB.2 h'.2⟩) h
  | .two i k r s, listed, a, w, hc, hB, h => by
    simp only [schedT, Bool.and_eq_true, decide_eq_true_eq] at hB
    obtain ⟨⟨⟨h1, h2⟩, h3⟩, h4⟩ := hB
    refine ⟨fun h0 => (by rw [h1] at h0; cases h0), fun j hj => ?_⟩
    have hj' := hj
    rw [h1] at hj
    have hj2 : j = i ∨ j = k := by simpa using hj
    rcases hj2 with rfl | rfl
    · exact wpOp_mono (fun a' w' h' => ⟨h'.1, wpD_of_T hs hQ r _ a' w' (hc.set hj') h3 h'.2⟩) h.1
    · refine wpOp_mono (fun a' w' h' => ⟨h'.1, ?_⟩) h.2
      rw [h2]
      exact wpD_of_T hs hQ s _ a' w' (hc.set hj') h4 h'.2

/-- A region that draws its order, by a schedule. -/
theorem wp_region_tree {id : Nat} {a : Act} {w : World} (hm : P.follows .mixedOrders = true) (s : Sch) (F : Nat → Bool)
    (hB : (Region.noSelect ops && decide (s.len = ops.size) && schedT .any ops F s (Array.replicate ops.size false)) = true)
    (hQ : ∀ c a d v w, Q (.panic c) (Act.put a d v) w → Q (.panic c) a w) (h : wpT P ops Q F s a w.drew) : (Code.region id ops true).wp P Q a w := by
  simp only [Bool.and_eq_true, decide_eq_true_eq] at hB
  obtain ⟨⟨h1, h2⟩, h3⟩ := hB
  refine wp_region_any hm (wpAny_of_D (F := F) _ _ _ _ ?_)
  rw [← h2]
  have := wpD_of_T (P := P) (md := .any) h1 hQ s (Array.replicate ops.size false) a w.drew Closed.start h3 h
  rw [← h2] at this
  exact this

theorem wpT_take {i : Nat} {o : Oper} {v : Value} {a a' : Act} {w : World} {r : Sch} (hi : ops[i]? = some o) (hy : YieldsIf P ops (FL w) o v a) (ha : a.put o.dst v = a') (h : wpT P ops Q F r a' w) : wpT P ops Q F (.cons i true r) a w :=
  ⟨o, v, hi, hy, ha ▸ h⟩
theorem wpT_skip {i j s : Nat} {b : Bool} {o oj : Oper} {a a' : Act} {w : World} {r : Sch} (hi : ops[i]? = some o) (hg : o.guard = some (j, b)) (hj : ops[j]? = some oj) (hd : oj.dst = some s) (hv : a.tmps[s]? = some (.bool (!b))) (ha : a.put o.dst undef = a')
    (h : wpT P ops Q F r a' w) : wpT P ops Q F (.cons i true r) a w :=
  wpT_take hi (Or.inr ⟨by cases b <;> simp [Region.wanted, hg, yielded, hj, hd, hv], rfl⟩) ha h
theorem wpOp_eff {X : Act → World → Prop} {i : Nat} {o : Oper} {a : Act} {w : World} (hi : ops[i]? = some o) (hw : Region.wanted o (yielded ops a.tmps) = true) (hF : F i = true)
    (h : ∀ K : Act → World → Prop, (∀ a' w', FL w w' → X a' w' → K a' w') → o.wp P a w K Q) : wpOp P ops Q i (fun a' w' => (F i = true → FL w w') ∧ X a' w') a w := by
  unfold wpOp
  simp only [hi, hw, if_true]
  exact .inl (h _ fun a' w' h1 h2 => ⟨fun _ => h1, h2⟩)
theorem wpT_eff {i : Nat} {o : Oper} {a : Act} {w : World} {r : Sch} (hi : ops[i]? = some o) (hw : Region.wanted o (yielded ops a.tmps) = true) (hF : F i = true)
    (h : ∀ K : Act → World → Prop, (∀ a' w', FL w w' → wpT P ops Q F r a' w' → K a' w') → o.wp P a w K Q) : wpT P ops Q F (.cons i false r) a w := wpOp_eff hi hw hF h
theorem wpT_two {i j : Nat} {oi oj : Oper} {a : Act} {w : World} {r s : Sch} (hi : ops[i]? = some oi) (hwi : Region.wanted oi (yielded ops a.tmps) = true) (hFi : F i = true) (hj : ops[j]? = some oj) (hwj : Region.wanted oj (yielded ops a.tmps) = true) (hFj : F j = true)
    (h1 : ∀ K : Act → World → Prop, (∀ a' w', FL w w' → wpT P ops Q F r a' w' → K a' w') → oi.wp P a w K Q)
    (h2 : ∀ K : Act → World → Prop, (∀ a' w', FL w w' → wpT P ops Q F s a' w' → K a' w') → oj.wp P a w K Q) : wpT P ops Q F (.two i j r s) a w := ⟨wpOp_eff hi hwi hFi h1, wpOp_eff hj hwj hFj h2⟩
/-- The last operations, as a list that the walk knows. -/
def Sch.seq : Nat → Nat → Sch
  | _, 0 => .nil
  | k, n + 1 => .cons k false (Sch.seq (k + 1) n)
theorem wpT_seq : ∀ (l : List Oper) (k : Nat) (a : Act) (w : World), (∀ j, j < l.length → l[j]? = ops[k + j]?) → (∀ j, k ≤ j → F j = false) → wpList P ops Q l a w → wpT P ops Q F (Sch.seq k l.length) a w
  | [], _, _, _, _, _, h => h
  | o :: l, k, a, w, hl, hF, h => by
    have h0 : ops[k]? = some o := by simpa using (hl 0 (by simp)).symm
    have hw : wpOp P ops Q k (wpList P ops Q l) a w := by unfold wpOp; simp only [h0]; exact h
    show wpOp P ops Q k _ a w
    exact wpOp_mono (fun a' w' h' => ⟨fun hf => (by rw [hF k (Nat.le_refl _)] at hf; cases hf), wpT_seq l (k + 1) a' w' (fun j hj => by have := hl (j + 1) (by simp; omega); simpa [Nat.add_assoc, Nat.add_comm 1 j] using this) (fun j hj => hF j (by omega)) h'⟩) hw
theorem wpT_tail (k : Nat) {a : Act} {w : World} (hF : ∀ j, k ≤ j → F j = false) (h : wpList P ops Q (ops.toList.drop k) a w) : wpT P ops Q F (Sch.seq k (ops.toList.drop k).length) a w :=
  wpT_seq _ k a w (fun j _ => by simp) hF h
theorem wpT_done {a : Act} {w : World} (h : Q .normal a w) : wpT P ops Q F .nil a w := h
end

end Go.Proofs.YtgmedcncbpdimaaDoor
end
