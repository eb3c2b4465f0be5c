/- Regions that draw their order, by a schedule: operations that neither write nor make memory are taken ahead of those that only make memory; the last ones come in one order. No program in sight. -/
import Derived.OrdersHeld
import Derived.Below
import Derived.Test.YtokmkopihhnggaaGreatDoorJfM
set_option linter.unusedVariables false
set_option linter.unusedSimpArgs false
set_option linter.unusedSectionVars false
namespace Go.Proofs.YtokmkopihhnggaaGreatDoor
open Go Go.RowKit
def FL (w w' : World) : Prop := w.heap.size ≤ w'.heap.size ∧ ∀ b, b < w.heap.size → w'.heap[b]? = w.heap[b]?
theorem FL.refl (w : World) : FL w w := ⟨Nat.le_refl _, fun _ _ => rfl⟩
theorem FL.trans {a b c : World} (h : FL a b) (k : FL b c) : FL a c := ⟨Nat.le_trans h.1 k.1, fun i hi => (k.2 i (Nat.lt_of_lt_of_le hi h.1)).trans (h.2 i hi)⟩
theorem FL.of_below {w w' : World} (h : Below w.heap.size w w') : FL w w' := ⟨h.size, fun b hb => h.block b hb⟩
theorem FL.cell {w w' : World} {p : Addr} (h : FL w w') (hc : (w.cell? p).isSome = true) : w'.cell? p = w.cell? p := by
 have hb : p.block < w.heap.size := by
  unfold World.cell? at hc
  rcases Nat.lt_or_ge p.block w.heap.size with h | h
  ·exact h
  simp [Array.getElem?_eq_none h] at hc
 unfold World.cell?
 rw [h.2 _ hb]
theorem FL.alloc (w : World) (o : Obj) : FL w (w.alloc o) := FL.of_below ((Below.refl _ _).alloc (Nat.le_refl _) _)
section
variable {P : Program} {ops : Array Oper} {Q : Exit → Act → World → Prop} {md : Region.Mode} {F : Nat → Bool}
def wpD (P : Program) (md : Region.Mode) (ops : Array Oper) (Q : Exit → Act → World → Prop) (F : Nat → Bool) : Nat → Array Bool → Act → World → Prop
 | 0, listed, a, w => Region.ready md ops listed = [] ∧ Q .normal a w
 | fuel + 1, listed, a, w =>
  (Region.ready md ops listed = [] → Q .normal a w) ∧
  ∀ i ∈ Region.ready md ops listed, wpOp P ops Q i (fun a' w' => (F i = true → FL w w') ∧ wpD P md ops Q F fuel (listed.setIfInBounds i true) a' w') a w
theorem wpAny_of_D : ∀ (fuel : Nat) (listed : Array Bool) (a : Act) (w : World), wpD P md ops Q F fuel listed a w → wpAny P md ops Q fuel listed a w
 | 0, _, _, _, h => h
 | fuel + 1, _, _, _, h => ⟨h.1, fun i hi => wpOp_mono (fun a' w' h' => wpAny_of_D fuel _ a' w' h'.2) (h.2 i hi)⟩
theorem yieldsIf_mono {S S' : World → Prop} {o : Oper} {v : Value} {a : Act} (hs : ∀ w, S' w → S w) (h : YieldsIf P ops S o v a) : YieldsIf P ops S' o v a :=
 h.imp (fun ⟨h1, h2⟩ => ⟨h1, fun w hw => h2 w (hs w hw)⟩) id
def waitsOn (md : Region.Mode) (ops : Array Oper) (i : Nat) : Nat → Nat → Bool
 | 0, _ => false
 | n + 1, j => match ops[j]? with
  | none => false
  | some o => o.after.any fun e => Region.binds md e && (e.on == i || waitsOn md ops i n e.on)
def Closed (md : Region.Mode) (ops : Array Oper) (listed : Array Bool) : Prop :=
 listed.size = ops.size ∧ ∀ (k : Nat) (o : Oper), ops[k]? = some o → listed.getD k false = true → ∀ e ∈ o.after, Region.binds md e = true → listed.getD e.on false = true
theorem Closed.start : Closed md ops (Array.replicate ops.size false) := by
 refine ⟨by simp, fun k o _ h => ?_⟩
 by_cases hk : k < ops.size <;> simp [hk] at h
theorem Closed.set {i : Nat} {listed : Array Bool} (h : Closed md ops listed) (hr : i ∈ Region.ready md ops listed) : Closed md ops (listed.setIfInBounds i true) := by
 refine ⟨by simpa using h.1, fun k o ho hl e he hb => ?_⟩
 by_cases hk : k = i
 ·subst hk
  obtain ⟨_, o', ho', hall⟩ := mem_ready.1 hr
  obtain rfl : o' = o := Option.some.inj (ho'.symm.trans ho)
  exact getD_set_true (hall e he hb)
 rw [getD_set_ne false (fun e => hk e.symm)] at hl
 exact getD_set_true (h.2 k o ho hl e he hb)
theorem waitsOn_listed {i : Nat} {listed : Array Bool} (hc : Closed md ops listed) : ∀ (n j : Nat), listed.getD j false = true → waitsOn md ops i n j = true → listed.getD i false = true := by
 intro n
 induction n with
 | zero => intro j _ h; simp [waitsOn] at h
 | succ n ih =>
  intro j hj h
  unfold waitsOn at h
  split at h
  ·cases h
  rename_i o ho
  obtain ⟨e, he, h⟩ := Array.any_eq_true'.1 h
  simp only [Bool.and_eq_true, Bool.or_eq_true, beq_iff_eq] at h
  have hl := hc.2 j o ho hj e he h.1
  rcases h.2 with h2 | h2
  ·rw [← h2]; exact hl
  exact ih _ hl h2
theorem waitsOn_ready {i : Nat} {listed : Array Bool} (hc : Closed md ops listed) (n j : Nat) (hj : j ∈ Region.ready md ops listed) (h : waitsOn md ops i n j = true) : listed.getD i false = true := by
 obtain ⟨_, o, ho, hall⟩ := mem_ready.1 hj
 cases n with
 | zero => simp [waitsOn] at h
 | succ n =>
  unfold waitsOn at h
  simp only [ho] at h
  obtain ⟨e, he, h⟩ := Array.any_eq_true'.1 h
  simp only [Bool.and_eq_true, Bool.or_eq_true, beq_iff_eq] at h
  have hl := hall e he h.1
  rcases h.2 with h2 | h2
  ·rw [← h2]; exact hl
  exact waitsOn_listed hc n _ hl h2
theorem getD_clash {listed : Array Bool} {i : Nat} (h : listed.getD i true = false) (h' : listed.getD i false = true) : False := by
 rcases Nat.lt_or_ge i listed.size with hi | hi
 ·simp [hi] at h h'; rw [h] at h'; cases h'
 simp [hi] at h
def earlyB (md : Region.Mode) (ops : Array Oper) (F : Nat → Bool) (listed : Array Bool) (i : Nat) : Bool :=
 (List.range ops.size).all fun j => j == i || listed.getD j true || F j || waitsOn md ops i ops.size j
theorem wpD_first {i N : Nat} {oi : Oper} {v : Value} (hi : ops[i]? = some oi) (hsel : ∀ (j : Nat) (o : Oper) cs b, ops[j]? = some o → o.op ≠ .select cs b)
  (hQ : ∀ c a w, Q (.panic c) (a.put oi.dst v) w → Q (.panic c) a w) :
  ∀ (fuel : Nat) (listed : Array Bool) (a : Act) (w : World), Closed md ops listed →
   (∀ j oj, ops[j]? = some oj → j ≠ i → listed.getD j true = false → (∀ e ∈ oj.after, Region.binds md e = true → e.on ≠ i) → oi.apart ops oj = true) →
   (∀ j oj, ops[j]? = some oj → j ≠ i → listed.getD j true = false → F j = true ∨ waitsOn md ops i N j = true) →
   i ∈ Region.ready md ops listed → YieldsIf P ops (FL w) oi v a →
   wpD P md ops Q F fuel (listed.setIfInBounds i true) (a.put oi.dst v) w → wpD P md ops Q F (fuel + 1) listed a w := by
 intro fuel
 induction fuel with
 | zero =>
  intro listed a w _ _ _ hr hy H
  refine ⟨fun h => (by rw [h] at hr; cases hr), fun j hj => ?_⟩
  by_cases hji : j = i
  ·subst hji; exact hy.wpOp hi (FL.refl w) ⟨fun _ => FL.refl w, H⟩
  have := ready_mono hj hji
  rw [H.1] at this
  cases this
 | succ fuel ih =>
  intro listed a w hc hfree hearly hr hy H
  refine ⟨fun h => (by rw [h] at hr; cases hr), fun j hj => ?_⟩
  by_cases hji : j = i
  ·subst hji; exact hy.wpOp hi (FL.refl w) ⟨fun _ => FL.refl w, H⟩
  have h1 := H.2 j (ready_mono hj hji)
  obtain ⟨hjun, oj, hoj, hall⟩ := mem_ready.1 hj
  have hnot : ∀ e ∈ oj.after, Region.binds md e = true → e.on ≠ i := fun e he hb heq => by
   have h1 := hall e he hb
   rw [heq] at h1
   exact getD_clash (mem_ready.1 hr).1 h1
  have hF : F j = true := by
   rcases hearly j oj hoj hji hjun with h | h
   ·exact h
   exact (getD_clash (mem_ready.1 hr).1 (waitsOn_ready hc _ _ hj h)).elim
  have h2 := wpOp_putIf hoj (hfree j oj hoj hji hjun hnot) (fun cs b => hsel i oi cs b hi) (fun cs b => hsel j oj cs b hoj) hQ hy h1
  have sub : ∀ k, (listed.setIfInBounds j true).getD k true = false → listed.getD k true = false := fun k h => by
   by_cases hjk : j = k
   ·subst hjk; exact hjun
   rw [getD_set_ne true hjk] at h; exact h
  refine wpOp_mono (fun a' w' h3 => ⟨h3.2.1, ih (listed.setIfInBounds j true) a' w' (hc.set hj) (fun k ok hk hki hun hno => hfree k ok hk hki (sub k hun) hno) (fun k ok hk hki hun => hearly k ok hk hki (sub k hun)) (ready_mono hr (Ne.symm hji)) (yieldsIf_mono (fun _ h => (h3.2.1 hF).trans h) h3.1) ?_⟩) h2
  rw [Array.setIfInBounds_comm _ _ hji]
  exact h3.2.2
end
inductive Sch where
 | nil : Sch
 | cons : Nat → Bool → Sch → Sch
 | two : Nat → Nat → Sch → Sch → Sch
def Sch.len : Sch → Nat
 | .nil => 0
 | .cons _ _ r => r.len + 1
 | .two _ _ r _ => r.len + 1
section
variable {P : Program} {ops : Array Oper} {Q : Exit → Act → World → Prop} {md : Region.Mode} {F : Nat → Bool}
def Sch.seq : Nat → Nat → Sch
 | _, 0 => .nil
 | k, n + 1 => .cons k false (Sch.seq (k + 1) n)
end
def reads : Op → Bool
 | .load .. => true
 | .lookup .. => true
 | .index .. => true
 | .call .. => true
 | _ => false
section
variable {P : Program} {ops : Array Oper} {Q : Exit → Act → World → Prop} {md : Region.Mode} {F : Nat → Bool}
def pureB (ops : Array Oper) (i : Nat) : Bool := match ops[i]? with
 | some o => !(reads o.op)
 | none => false
def schedP (md : Region.Mode) (ops : Array Oper) (F : Nat → Bool) : Sch → Array Bool → Bool
 | .nil, listed => (Region.ready md ops listed).isEmpty
 | .cons i true r, listed => (Region.ready md ops listed).contains i && Region.free md ops listed i && (pureB ops i || earlyB md ops F listed i) && schedP md ops F r (listed.setIfInBounds i true)
 | .cons i false r, listed => decide (Region.ready md ops listed = [i]) && schedP md ops F r (listed.setIfInBounds i true)
 | .two i j r s, listed => decide (Region.ready md ops listed = [i, j]) && decide (r.len = s.len) && schedP md ops F r (listed.setIfInBounds i true) && schedP md ops F s (listed.setIfInBounds j true)
def wpP (P : Program) (ops : Array Oper) (Q : Exit → Act → World → Prop) (F : Nat → Bool) : Sch → Act → World → Prop
 | .nil, a, w => Q .normal a w
 | .cons i true r, a, w => ∃ o v, ops[i]? = some o ∧ YieldsIf P ops (fun w' => FL w w' ∨ reads o.op = false) o v a ∧ wpP P ops Q F r (a.put o.dst v) w
 | .cons i false r, a, w => wpOp P ops Q i (fun a' w' => (F i = true → FL w w') ∧ wpP P ops Q F r a' w') a w
 | .two i j r s, a, w => wpOp P ops Q i (fun a' w' => (F i = true → FL w w') ∧ wpP P ops Q F r a' w') a w ∧ wpOp P ops Q j (fun a' w' => (F j = true → FL w w') ∧ wpP P ops Q F s a' w') a w
theorem wpD_firstP {i : Nat} {oi : Oper} {v : Value} (hi : ops[i]? = some oi) (hsel : ∀ (j : Nat) (o : Oper) cs b, ops[j]? = some o → o.op ≠ .select cs b)
  (hQ : ∀ c a w, Q (.panic c) (a.put oi.dst v) w → Q (.panic c) a w) :
  ∀ (fuel : Nat) (listed : Array Bool) (a : Act) (w : World), Closed md ops listed →
   (∀ j oj, ops[j]? = some oj → j ≠ i → listed.getD j true = false → (∀ e ∈ oj.after, Region.binds md e = true → e.on ≠ i) → oi.apart ops oj = true) →
   i ∈ Region.ready md ops listed → YieldsIf P ops (fun _ => True) oi v a →
   wpD P md ops Q F fuel (listed.setIfInBounds i true) (a.put oi.dst v) w → wpD P md ops Q F (fuel + 1) listed a w := by
 intro fuel
 induction fuel with
 | zero =>
  intro listed a w _ _ hr hy H
  refine ⟨fun h => (by rw [h] at hr; cases hr), fun j hj => ?_⟩
  by_cases hji : j = i
  ·subst hji; exact hy.wpOp hi trivial ⟨fun _ => FL.refl w, H⟩
  have := ready_mono hj hji
  rw [H.1] at this
  cases this
 | succ fuel ih =>
  intro listed a w hc hfree hr hy H
  refine ⟨fun h => (by rw [h] at hr; cases hr), fun j hj => ?_⟩
  by_cases hji : j = i
  ·subst hji; exact hy.wpOp hi trivial ⟨fun _ => FL.refl w, H⟩
  have h1 := H.2 j (ready_mono hj hji)
  obtain ⟨hjun, oj, hoj, hall⟩ := mem_ready.1 hj
  have hnot : ∀ e ∈ oj.after, Region.binds md e = true → e.on ≠ i := fun e he hb heq => by
   have h1 := hall e he hb
   rw [heq] at h1
   exact getD_clash (mem_ready.1 hr).1 h1
  have h2 := wpOp_putIf hoj (hfree j oj hoj hji hjun hnot) (fun cs b => hsel i oi cs b hi) (fun cs b => hsel j oj cs b hoj) hQ hy h1
  have sub : ∀ k, (listed.setIfInBounds j true).getD k true = false → listed.getD k true = false := fun k h => by
   by_cases hjk : j = k
   ·subst hjk; exact hjun
   rw [getD_set_ne true hjk] at h; exact h
  refine wpOp_mono (fun a' w' h3 => ⟨h3.2.1, ih (listed.setIfInBounds j true) a' w' (hc.set hj) (fun k ok hk hki hun hno => hfree k ok hk hki (sub k hun) hno) (ready_mono hr (Ne.symm hji)) (yieldsIf_mono (fun _ h => trivial) h3.1) ?_⟩) h2
  rw [Array.setIfInBounds_comm _ _ hji]
  exact h3.2.2
theorem wpD_of_P (hs : Region.noSelect ops = true) (hQ : ∀ c a d v w, Q (.panic c) (Act.put a d v) w → Q (.panic c) a w) : ∀ (s : Sch) (listed : Array Bool) (a : Act) (w : World), Closed md ops listed → schedP md ops F s listed = true →
  wpP P ops Q F s a w → wpD P md ops Q F s.len listed a w
 | .nil, listed, a, w, _, hB, h => ⟨by simpa [schedP] using hB, h⟩
 | .cons i true r, listed, a, w, hc, hB, h => by
  simp only [schedP, Bool.and_eq_true] at hB
  obtain ⟨⟨⟨h1, h2⟩, h3⟩, h4⟩ := hB
  obtain ⟨o, v, ho, hy, hr⟩ := h
  have hrd : i ∈ Region.ready md ops listed := by simpa using h1
  rcases Bool.or_eq_true_iff.1 h3 with h3 | h3
  ·have hp : reads o.op = false := by simpa [pureB, ho] using h3
   exact wpD_firstP ho (Region.noSelect_spec hs) (fun c a w => hQ c a o.dst v w) r.len listed a w hc (Region.free_spec ho h2) hrd (yieldsIf_mono (fun w' _ => .inr hp) hy) (wpD_of_P hs hQ r _ _ _ (hc.set hrd) h4 hr)
  refine wpD_first (N := ops.size) ho (Region.noSelect_spec hs) (fun c a w => hQ c a o.dst v w) r.len listed a w hc (Region.free_spec ho h2) (fun j oj hj hne hun => ?_) hrd (yieldsIf_mono (fun w' hF => .inl hF) hy) (wpD_of_P hs hQ r _ _ _ (hc.set hrd) h4 hr)
  have hlt : j < ops.size := (Array.getElem?_eq_some_iff.1 hj).1
  have := List.all_eq_true.1 h3 j (List.mem_range.2 hlt)
  simpa [hne, hun] using this
 | .cons i false r, listed, a, w, hc, hB, h => by
  simp only [schedP, Bool.and_eq_true, decide_eq_true_eq] at hB
  refine ⟨fun h0 => (by rw [hB.1] at h0; cases h0), fun j hj => ?_⟩
  have hj' := hj
  rw [hB.1] at hj
  obtain rfl : j = i := by simpa using hj
  exact wpOp_mono (fun a' w' h' => ⟨h'.1, wpD_of_P hs hQ r _ a' w' (hc.set hj') hB.2 h'.2⟩) h
 | .two i k r s, listed, a, w, hc, hB, h => by
  simp only [schedP, Bool.and_eq_true, decide_eq_true_eq] at hB
  obtain ⟨⟨⟨h1, h2⟩, h3⟩, h4⟩ := hB
  refine ⟨fun h0 => (by rw [h1] at h0; cases h0), fun j hj => ?_⟩
  have hj' := hj
  rw [h1] at hj
  have hj2 : j = i ∨ j = k := by simpa using hj
  rcases hj2 with rfl | rfl
  ·exact wpOp_mono (fun a' w' h' => ⟨h'.1, wpD_of_P hs hQ r _ a' w' (hc.set hj') h3 h'.2⟩) h.1
  refine wpOp_mono (fun a' w' h' => ⟨h'.1, ?_⟩) h.2
  rw [h2]
  exact wpD_of_P hs hQ s _ a' w' (hc.set hj') h4 h'.2
theorem wp_region_pure {id : Nat} {a : Act} {w : World} (hm : P.follows .mixedOrders = true) (s : Sch) (F : Nat → Bool)
  (hB : (Region.noSelect ops && decide (s.len = ops.size) && schedP .any ops F s (Array.replicate ops.size false)) = true)
  (hQ : ∀ c a d v w, Q (.panic c) (Act.put a d v) w → Q (.panic c) a w) (h : wpP P ops Q F s a w.drew) : (Code.region id ops true).wp P Q a w := by
 simp only [Bool.and_eq_true, decide_eq_true_eq] at hB
 obtain ⟨⟨h1, h2⟩, h3⟩ := hB
 refine wp_region_any hm (wpAny_of_D (F := F) _ _ _ _ ?_)
 rw [← h2]
 have := wpD_of_P (P := P) (md := .any) h1 hQ s (Array.replicate ops.size false) a w.drew Closed.start h3 h
 rw [← h2] at this
 exact this
end
inductive C where
 | lit (v : Value)
 | sh (sz n : Nat) (cs : List C)
 | own (nm st n sz : Nat)
 | ptr (nm st off : Nat)
 | sp (cs : List C)
 | dead
deriving Inhabited
structure Blk where
 st : Nat
 E : TypeId
 sz : Nat
 n : Nat
 cs : List C
deriving Inhabited
def obk : Value → Option Nat
 | .slice (some a) _ _ => some a.block
 | .map (some r) => some r
 | _ => none
theorem obk_of_own {v : Value} {b : Nat} (h : v.ownBlock = some b) : obk v = some b := by
 cases v with
 | slice a n c => cases a <;> simp [Value.ownBlock] at h; subst h; rfl
 | _ => simp [Value.ownBlock] at h
structure Kx where
 base : Nat
 T : Nat → Prop
 w : World
 σ : Nat → Value
 H : Nat → Option Blk
 nx : Nat
def Kx.S (κ : Kx) (b : Nat) : Prop := (κ.T b ∨ κ.base ≤ b) ∧ b < κ.w.heap.size ∧ ∀ nm B, κ.H nm = some B → obk (κ.σ nm) ≠ some b
mutual
def den (κ : Kx) (v : Value) : C → Prop
 | .lit x => v = x ∧ x.oneCell' = true
 | .sh sz n cs => ∃ a cap, v = .slice a n cap ∧ n ≤ cap ∧ cap ≤ maxLen ∧ (a = none → cap = 0) ∧ cs.length = n * sz ∧ (n = 0 ∨ ∃ b off, a = some ⟨b, off, none⟩ ∧ κ.S b ∧ denM κ b off cs)
 | .own nm st n sz => v.oneCell' = true ∧ st < κ.nx ∧ ∀ B, κ.H nm = some B → B.st = st → v = κ.σ nm ∧ B.n = n ∧ B.sz = sz
 | .ptr nm st off => v.oneCell' = true ∧ st < κ.nx ∧ ∀ B, κ.H nm = some B → B.st = st → ∃ b, (κ.σ nm).ownBlock = some b ∧ v = .pointer (some ⟨b, off, none⟩)
 | .sp cs => ∃ b off, v = .pointer (some ⟨b, off, none⟩) ∧ κ.S b ∧ denM κ b off cs
 | .dead => v.oneCell' = true
def denM (κ : Kx) (b off : Nat) : List C → Prop
 | [] => True
 | c :: cs => (∃ u, κ.w.cell? ⟨b, off, none⟩ = some u ∧ den κ u c) ∧ denM κ b (off + 1) cs
end
theorem den_one {κ : Kx} {v : Value} {c : C} (h : den κ v c) : v.oneCell' = true := by
 cases c <;> simp only [den] at h
 ·rw [h.1]; exact h.2
 ·obtain ⟨a, cap, rfl, _⟩ := h; rfl
 ·exact h.1
 ·exact h.1
 ·obtain ⟨b, off, rfl, _⟩ := h; rfl
 exact h
def denVs (κ : Kx) : List Value → List C → Prop
 | [], [] => True
 | v :: vs, c :: cs => den κ v c ∧ denVs κ vs cs
 | _, _ => False
theorem denVs.length {κ : Kx} : ∀ {vs : List Value} {cs : List C}, denVs κ vs cs → vs.length = cs.length
 | [], [], _ => rfl
 | _ :: _, _ :: _, h => congrArg (· + 1) (denVs.length h.2)
 | [], _ :: _, h => h.elim
 | _ :: _, [], h => h.elim
theorem denVs.get {κ : Kx} : ∀ {vs : List Value} {cs : List C} (_ : denVs κ vs cs) (i : Nat) {c : C}, cs[i]? = some c → ∃ v, vs[i]? = some v ∧ den κ v c
 | [], [], _, i, c, h => by simp at h
 | v :: _, _ :: _, h, 0, c, hc => by simp at hc; subst hc; exact ⟨v, rfl, h.1⟩
 | _ :: _, _ :: _, h, i + 1, c, hc => by simp at hc; simpa using denVs.get h.2 i hc
 | [], _ :: _, h, _, _, _ => h.elim
 | _ :: _, [], h, _, _, _ => h.elim
theorem denVs.one {κ : Kx} : ∀ {vs : List Value} {cs : List C}, denVs κ vs cs → ∀ v ∈ vs, v.oneCell' = true
 | [], [], _, v, hv => by simp at hv
 | u :: vs, _ :: _, h, v, hv => by
  rcases List.mem_cons.1 hv with rfl | hv
  ·exact den_one h.1
  exact denVs.one h.2 v hv
 | [], _ :: _, h, _, _ => h.elim
 | _ :: _, [], h, _, _ => h.elim
theorem denVs.append {κ : Kx} : ∀ {vs us : List Value} {cs ds : List C}, denVs κ vs cs → denVs κ us ds → denVs κ (vs ++ us) (cs ++ ds)
 | [], _, [], _, _, h => h
 | _ :: _, _, _ :: _, _, h, k => ⟨h.1, denVs.append h.2 k⟩
 | [], _, _ :: _, _, h, _ => h.elim
 | _ :: _, _, [], _, h, _ => h.elim
theorem denVs.drop {κ : Kx} : ∀ {vs : List Value} {cs : List C} (_ : denVs κ vs cs) (k : Nat), denVs κ (vs.drop k) (cs.drop k)
 | [], [], _, k => by simp [denVs]
 | _ :: _, _ :: _, h, 0 => h
 | _ :: _, _ :: _, h, k + 1 => denVs.drop h.2 k
 | [], _ :: _, h, _ => h.elim
 | _ :: _, [], h, _ => h.elim
theorem denVs.take {κ : Kx} : ∀ {vs : List Value} {cs : List C} (_ : denVs κ vs cs) (k : Nat), denVs κ (vs.take k) (cs.take k)
 | [], [], _, k => by simp [denVs]
 | _ :: _, _ :: _, h, 0 => trivial
 | _ :: _, _ :: _, h, k + 1 => ⟨h.1, denVs.take h.2 k⟩
 | [], _ :: _, h, _ => h.elim
 | _ :: _, [], h, _ => h.elim
theorem denVs.set {κ : Kx} : ∀ {vs : List Value} {cs : List C} (_ : denVs κ vs cs) (k : Nat) {v : Value} {c : C}, den κ v c → denVs κ (vs.set k v) (cs.set k c)
 | [], [], _, k, _, _, _ => by simp [denVs]
 | _ :: _, _ :: _, h, 0, _, _, d => ⟨d, h.2⟩
 | _ :: _, _ :: _, h, k + 1, _, _, d => ⟨h.1, denVs.set h.2 k d⟩
 | [], _ :: _, h, _, _, _, _ => h.elim
 | _ :: _, [], h, _, _, _, _ => h.elim
theorem denM.get {κ : Kx} {b : Nat} : ∀ {cs : List C} {off : Nat} (_ : denM κ b off cs) (i : Nat) {c : C}, cs[i]? = some c → ∃ u, κ.w.cell? ⟨b, off + i, none⟩ = some u ∧ den κ u c
 | [], _, _, i, c, h => by simp at h
 | _ :: _, _, h, 0, c, hc => by simp only [denM] at h; simp at hc; subst hc; exact h.1
 | _ :: _, off, h, i + 1, c, hc => by
  simp only [denM] at h
  simp at hc
  have := denM.get h.2 i hc
  rwa [Nat.add_right_comm] at this
theorem denM.drop {κ : Kx} {b : Nat} : ∀ {cs : List C} {off : Nat} (_ : denM κ b off cs) (k : Nat), denM κ b (off + k) (cs.drop k)
 | [], _, _, k => by simp [denM]
 | _ :: _, _, h, 0 => h
 | _ :: _, off, h, k + 1 => by
  simp only [denM] at h
  have := denM.drop h.2 k
  rwa [Nat.add_right_comm] at this
theorem denM.take {κ : Kx} {b : Nat} : ∀ {cs : List C} {off : Nat} (_ : denM κ b off cs) (k : Nat), denM κ b off (cs.take k)
 | [], _, _, k => by simp [denM]
 | _ :: _, _, _, 0 => by simp [denM]
 | _ :: _, off, h, k + 1 => by
  simp only [denM] at h
  rw [List.take_succ_cons]
  simp only [denM]
  exact ⟨h.1, denM.take h.2 k⟩
theorem denM.vals {κ : Kx} {b : Nat} : ∀ {cs : List C} {off : Nat} (_ : denM κ b off cs), ∃ us, denVs κ us cs ∧ ∀ j u, us[j]? = some u → κ.w.cell? ⟨b, off + j, none⟩ = some u
 | [], _, _ => ⟨[], trivial, fun j u h => by simp at h⟩
 | _ :: _, off, h => by
  simp only [denM] at h
  obtain ⟨⟨u, h1, h2⟩, h3⟩ := h
  obtain ⟨us, h4, h5⟩ := denM.vals h3
  refine ⟨u :: us, ⟨h2, h4⟩, fun j x hj => ?_⟩
  cases j with
  | zero => simp at hj; subst hj; exact h1
  | succ j => simp at hj; have := h5 j x hj; rwa [Nat.add_right_comm] at this
theorem denM.of_vals {κ : Kx} {b : Nat} : ∀ {cs : List C} {us : List Value} {off : Nat}, denVs κ us cs → (∀ j u, us[j]? = some u → κ.w.cell? ⟨b, off + j, none⟩ = some u) → denM κ b off cs
 | [], [], _, _, _ => by simp [denM]
 | _ :: _, u :: us, off, h, hc => by
  simp only [denM]
  refine ⟨⟨u, hc 0 u rfl, h.1⟩, denM.of_vals h.2 fun j x hj => ?_⟩
  have := hc (j + 1) x (by simpa using hj)
  rwa [Nat.add_right_comm]
 | [], _ :: _, _, h, _ => h.elim
 | _ :: _, [], _, h, _ => h.elim
structure Ext (κ κ' : Kx) : Prop where
 nx : κ.nx ≤ κ'.nx
 sh : ∀ b, κ.S b → κ'.S b ∧ κ'.w.heap[b]? = κ.w.heap[b]?
 ow : ∀ nm B', κ'.H nm = some B' → κ.nx ≤ B'.st ∨ ∃ B, κ.H nm = some B ∧ B.st = B'.st ∧ B.sz = B'.sz ∧ B.n = B'.n ∧ κ'.σ nm = κ.σ nm
theorem Ext.refl (κ : Kx) : Ext κ κ := ⟨Nat.le_refl _, fun _ h => ⟨h, rfl⟩, fun _ B h => .inr ⟨B, h, rfl, rfl, rfl, rfl⟩⟩
theorem Ext.trans {a b c : Kx} (h : Ext a b) (k : Ext b c) : Ext a c := by
 refine ⟨Nat.le_trans h.nx k.nx, fun x hx => ⟨(k.sh x (h.sh x hx).1).1, ((k.sh x (h.sh x hx).1).2).trans (h.sh x hx).2⟩, fun nm B' hB' => ?_⟩
 rcases k.ow nm B' hB' with h1 | ⟨B, h1, h2, h3, h4, h5⟩
 ·exact .inl (Nat.le_trans h.nx h1)
 rcases h.ow nm B h1 with g1 | ⟨D, g1, g2, g3, g4, g5⟩
 ·exact .inl (h2 ▸ g1)
 exact .inr ⟨D, g1, g2.trans h2, g3.trans h3, g4.trans h4, h5.trans g5⟩
mutual
theorem den_ext {κ κ' : Kx} (h : Ext κ κ') : ∀ {c : C} {v : Value}, den κ v c → den κ' v c
 | .lit x, v, d => by simp only [den] at d ⊢; exact d
 | .sh sz n cs, v, d => by
  simp only [den] at d ⊢
  obtain ⟨a, cap, h1, h2, h3, h4, h5, h6⟩ := d
  refine ⟨a, cap, h1, h2, h3, h4, h5, ?_⟩
  rcases h6 with h6 | ⟨b, off, h6, h7, h8⟩
  ·exact .inl h6
  exact .inr ⟨b, off, h6, (h.sh b h7).1, denM_ext h (h.sh b h7).2 h8⟩
 | .own nm st n sz, v, d => by
  simp only [den] at d ⊢
  refine ⟨d.1, Nat.lt_of_lt_of_le d.2.1 h.nx, fun B' hB' hst => ?_⟩
  rcases h.ow nm B' hB' with h1 | ⟨B, h1, h2, h3, h4, h5⟩
  ·exact absurd d.2.1 (by omega)
  have := d.2.2 B h1 (h2.trans hst)
  exact ⟨this.1.trans h5.symm, h4.symm.trans this.2.1, h3.symm.trans this.2.2⟩
 | .ptr nm st off, v, d => by
  simp only [den] at d ⊢
  refine ⟨d.1, Nat.lt_of_lt_of_le d.2.1 h.nx, fun B' hB' hst => ?_⟩
  rcases h.ow nm B' hB' with h1 | ⟨B, h1, h2, h3, h4, h5⟩
  ·exact absurd d.2.1 (by omega)
  rw [h5]; exact d.2.2 B h1 (h2.trans hst)
 | .sp cs, v, d => by
  simp only [den] at d ⊢
  obtain ⟨b, off, h1, h2, h3⟩ := d
  exact ⟨b, off, h1, (h.sh b h2).1, denM_ext h (h.sh b h2).2 h3⟩
 | .dead, v, d => by simp only [den] at d ⊢; exact d
theorem denM_ext {κ κ' : Kx} (h : Ext κ κ') {b : Nat} (hb : κ'.w.heap[b]? = κ.w.heap[b]?) : ∀ {cs : List C} {off : Nat}, denM κ b off cs → denM κ' b off cs
 | [], off, _ => by simp [denM]
 | c :: cs, off, d => by
  simp only [denM] at d ⊢
  obtain ⟨⟨u, h1, h2⟩, h3⟩ := d
  exact ⟨⟨u, by rw [World.cell?_of_block (w := κ.w) hb]; exact h1, den_ext h h2⟩, denM_ext h hb h3⟩
end
theorem denVs_ext {κ κ' : Kx} (h : Ext κ κ') : ∀ {vs : List Value} {cs : List C}, denVs κ vs cs → denVs κ' vs cs
 | [], [], _ => trivial
 | _ :: _, _ :: _, d => ⟨den_ext h d.1, denVs_ext h d.2⟩
 | [], _ :: _, d => d.elim
 | _ :: _, [], d => d.elim
inductive A1 where
 | one (c : C)
 | agg (cs : List C)
deriving Inhabited
inductive AV where
 | val (a : A1)
 | tup (l : List A1)
 | dead
deriving Inhabited
def A1.cells : A1 → List C
 | .one c => [c]
 | .agg cs => cs
def den1 (κ : Kx) (v : Value) : A1 → Prop
 | .one c => den κ v c
 | .agg cs => ∃ vs : List Value, v = .agg vs.toArray ∧ denVs κ vs cs
def den1s (κ : Kx) : List Value → List A1 → Prop
 | [], [] => True
 | v :: vs, c :: cs => den1 κ v c ∧ den1s κ vs cs
 | _, _ => False
def denA (κ : Kx) (v : Value) : AV → Prop
 | .val a => den1 κ v a
 | .tup l => ∃ vs : List Value, v = .tuple vs.toArray ∧ den1s κ vs l
 | .dead => True
theorem den1_ext {κ κ' : Kx} (h : Ext κ κ') : ∀ {a : A1} {v : Value}, den1 κ v a → den1 κ' v a
 | .one _, _, d => den_ext h d
 | .agg _, _, ⟨vs, h1, h2⟩ => ⟨vs, h1, denVs_ext h h2⟩
theorem den1s_ext {κ κ' : Kx} (h : Ext κ κ') : ∀ {vs : List Value} {cs : List A1}, den1s κ vs cs → den1s κ' vs cs
 | [], [], _ => trivial
 | _ :: _, _ :: _, d => ⟨den1_ext h d.1, den1s_ext h d.2⟩
 | [], _ :: _, d => d.elim
 | _ :: _, [], d => d.elim
theorem denA_ext {κ κ' : Kx} (h : Ext κ κ') : ∀ {a : AV} {v : Value}, denA κ v a → denA κ' v a
 | .val _, _, d => den1_ext h d
 | .tup _, _, ⟨vs, h1, h2⟩ => ⟨vs, h1, den1s_ext h h2⟩
 | .dead, _, _ => trivial
theorem den1_cells {κ : Kx} : ∀ {a : A1} {v : Value}, den1 κ v a → denVs κ v.cells.toList a.cells
 | .one c, v, d => by
  have h1 := den_one d
  have : v.cells = #[v] := by cases v <;> simp_all [Value.oneCell', Value.cells]
  rw [this]; exact ⟨d, trivial⟩
 | .agg _, _, ⟨vs, h1, h2⟩ => by subst h1; simpa [Value.cells, A1.cells] using h2
def up {α : Type} (f : Nat → α) (i : Nat) (x : α) : Nat → α := fun j => if j = i then x else f j
theorem up_same {α : Type} (f : Nat → α) (i : Nat) (x : α) : up f i x i = x := by simp [up]
theorem up_ne {α : Type} (f : Nat → α) {i j : Nat} (x : α) (h : j ≠ i) : up f i x j = f j := by simp [up, h]
theorem up_apply {α : Type} (f : Nat → α) (i : Nat) (x : α) (j : Nat) : up f i x j = if j = i then x else f j := rfl
theorem up_up {α : Type} (f : Nat → α) (i : Nat) (x y : α) : up (up f i x) i y = up f i y := by
 funext j; unfold up; split <;> rfl
abbrev Hp := Nat → Option Blk
structure En where
 w0 : World
 T : Nat → Prop
def kx (e : En) (H : Hp) (nx : Nat) (σ : Nat → Value) (w : World) : Kx := ⟨e.w0.heap.size, e.T, w, σ, H, nx⟩
def entC (e : MapEntry) : C := .lit (.agg #[e.key, e.val])
def blkV (κ : Kx) (nm : Nat) (B : Blk) : Prop :=
 (B.sz ≠ 0 ∧ B.cs.length = B.n * B.sz ∧ ∃ xs, κ.w.ownsRow κ.base B.E B.sz (κ.σ nm) B.n xs ∧ denVs κ xs B.cs) ∨
 (B.sz = 0 ∧ B.n = 0 ∧ ∃ b es clock, κ.σ nm = .map (some b) ∧ κ.base ≤ b ∧ κ.w.heap[b]? = some (.map es clock) ∧ B.cs = es.toList.map entC)
def blkOK (κ : Kx) (nm : Nat) (B : Blk) : Prop := B.st < κ.nx ∧ blkV κ nm B
theorem obk_row {w : World} {base : Nat} {E : TypeId} {sz n : Nat} {v : Value} {xs : List Value} (h : w.ownsRow base E sz v n xs) : obk v = v.ownBlock := by
 rcases h.2 with ⟨rfl, _⟩ | ⟨g, cap, cur, rfl, _⟩ <;> rfl
theorem blkV.kept {κ κ' : Kx} {nm : Nat} {B : Blk} {row : Option Nat} (h : blkV κ nm B) (hg : κ.w.grownBy κ'.w row) (hne : obk (κ.σ nm) = none ∨ obk (κ.σ nm) ≠ row) (hb : κ'.base = κ.base) (hs : κ'.σ nm = κ.σ nm) (hx : Ext κ κ') : blkV κ' nm B := by
  rcases h with ⟨h0, h1, xs, h2, h3⟩ | ⟨h1, h2, b, es, clock, h3, h4, h5, h6⟩
  · refine .inl ⟨h0, h1, xs, ?_, denVs_ext hx h3⟩
    rw [hb, hs]
    refine h2.kept hg ?_
    rw [← obk_row h2]; exact hne
  refine .inr ⟨h1, h2, b, es, clock, by rw [hs]; exact h3, by rw [hb]; exact h4, ?_, h6⟩
  rw [h3] at hne
  have hlt : b < κ.w.heap.size := (Array.getElem?_eq_some_iff.1 h5).1
  rw [hg.block b hlt (fun e => (by rcases hne with h | h; · cases h
                                   exact h e))]
  exact h5
theorem blkV.lt {κ : Kx} {nm : Nat} {B : Blk} (h : blkV κ nm B) {b : Nat} (hb : obk (κ.σ nm) = some b) : κ.base ≤ b ∧ b < κ.w.heap.size := by
 rcases h with ⟨_, h1, xs, h2, h3⟩ | ⟨h1, h2, b', es, clock, h3, h4, h5, h6⟩
 ·rw [obk_row h2] at hb; exact h2.lt b hb
 rw [h3] at hb
 obtain rfl : b' = b := Option.some.inj hb
 exact ⟨h4, (Array.getElem?_eq_some_iff.1 h5).1⟩
theorem blkV.row {κ : Kx} {nm : Nat} {B : Blk} (h : blkV κ nm B) (hr : B.sz ≠ 0 ∨ B.n ≠ 0 ∨ ∃ b, (κ.σ nm).ownBlock = some b) : B.cs.length = B.n * B.sz ∧ ∃ xs, κ.w.ownsRow κ.base B.E B.sz (κ.σ nm) B.n xs ∧ denVs κ xs B.cs := by
 rcases h with h | ⟨h1, h2, b', es, clock, h3, _⟩
 ·exact h.2
 rcases hr with h | h | ⟨b, h⟩
 ·exact (h h1).elim
 ·exact (h h2).elim
 rw [h3] at h; cases h
structure RW (e : En) (H : Hp) (nx : Nat) (σ : Nat → Value) (w : World) : Prop where
 bel : Below e.w0.heap.size e.w0 w
 hT : ∀ b, e.T b → b < e.w0.heap.size
 blk : ∀ nm B, H nm = some B → blkOK (kx e H nx σ w) nm B
 inj : ∀ nm nm' B B', H nm = some B → H nm' = some B' → nm ≠ nm' → ∀ b, obk (σ nm) = some b → obk (σ nm') ≠ some b
section
variable {e : En} {H : Hp} {nx : Nat} {σ : Nat → Value} {w w' : World}
theorem RW.size (h : RW e H nx σ w) : e.w0.heap.size ≤ w.heap.size := h.bel.size
theorem RW.lt (h : RW e H nx σ w) {nm : Nat} {B : Blk} (hB : H nm = some B) {b : Nat} (hb : obk (σ nm) = some b) : e.w0.heap.size ≤ b ∧ b < w.heap.size := (h.blk nm B hB).2.lt hb
theorem RW.rowOf (h : RW e H nx σ w) {nm : Nat} {B : Blk} (hB : H nm = some B) (hr : B.sz ≠ 0 ∨ B.n ≠ 0 ∨ ∃ b, (σ nm).ownBlock = some b) : B.st < nx ∧ B.cs.length = B.n * B.sz ∧ ∃ xs, w.ownsRow e.w0.heap.size B.E B.sz (σ nm) B.n xs ∧ denVs (kx e H nx σ w) xs B.cs :=
 ⟨(h.blk nm B hB).1, (h.blk nm B hB).2.row hr⟩
theorem RW.szOf (h : RW e H nx σ w) {nm : Nat} {B : Blk} (hB : H nm = some B) (hr : ∃ b, (σ nm).ownBlock = some b) : B.sz ≠ 0 := by
 rcases (h.blk nm B hB).2 with h | ⟨h1, h2, b', es, clock, h3, _⟩
 ·exact h.1
 obtain ⟨b, hb⟩ := hr
 have h3' : σ nm = .map (some b') := h3
 rw [h3'] at hb; cases hb
theorem ext_keep (h : RW e H nx σ w) (hg : w.grownBy w' none) : Ext (kx e H nx σ w) (kx e H nx σ w') :=
 ⟨Nat.le_refl _, fun b hb => ⟨⟨hb.1, Nat.lt_of_lt_of_le hb.2.1 hg.size, hb.2.2⟩, hg.block b hb.2.1 (by simp)⟩, fun nm B hB => .inr ⟨B, hB, rfl, rfl, rfl, rfl⟩⟩
theorem RW.keep (h : RW e H nx σ w) (hg : w.grownBy w' none) : RW e H nx σ w' ∧ Ext (kx e H nx σ w) (kx e H nx σ w') := by
 refine ⟨⟨h.bel.grown hg h.size (by simp), h.hT, fun nm B hB => ?_, h.inj⟩, ext_keep h hg⟩
 exact ⟨(h.blk nm B hB).1, (h.blk nm B hB).2.kept hg (Classical.em _) rfl rfl (ext_keep h hg)⟩
theorem grownBy_below {w w' : World} (hb : Below w.heap.size w w') : w.grownBy w' none := ⟨hb.os, hb.tape, hb.output, hb.size, fun k hk _ => hb.block k hk⟩
theorem grownBy_drew (w : World) : w.grownBy w.drew none := ⟨rfl, rfl, rfl, Nat.le_refl _, fun _ _ _ => rfl⟩
theorem ext_new (h : RW e H nx σ w) {nm0 d : Nat} {row : Option Nat} (hg : w.grownBy w' row) {B' : Blk} {v' : Value} (hst : B'.st = nx)
  (hrow : ∀ r, row = some r → obk (σ nm0) = some r ∧ ∃ B, H nm0 = some B)
  (hv : ∀ r, obk v' = some r → w.heap.size ≤ r ∨ (obk (σ nm0) = some r ∧ ∃ B, H nm0 = some B)) :
  Ext (kx e H nx σ w) (kx e (up (up H nm0 none) d (some B')) (nx + 1) (up σ d v') w') := by
 refine ⟨Nat.le_succ _, fun b hb => ⟨⟨hb.1, Nat.lt_of_lt_of_le hb.2.1 hg.size, fun nm B hB => ?_⟩, hg.block b hb.2.1 fun hr => ?_⟩, fun nm B hB => ?_⟩
 ·show obk (up σ d v' nm) ≠ some b
  have hB' : up (up H nm0 none) d (some B') nm = some B := hB
  by_cases hd : nm = d
  ·subst hd
   rw [up_same]
   intro hvb
   rcases hv b hvb with h1 | ⟨h1, B0, h2⟩
   ·have := hb.2.1; have h5 : b < w.heap.size := this; omega
   exact hb.2.2 nm0 B0 h2 h1
  rw [up_ne _ _ hd] at hB' ⊢
  by_cases h0 : nm = nm0
  ·subst h0; rw [up_same] at hB'; cases hB'
  rw [up_ne _ _ h0] at hB'
  exact hb.2.2 nm B hB'
 ·obtain ⟨h1, B0, h2⟩ := hrow b hr.symm
  exact hb.2.2 nm0 B0 h2 h1
 have hB' : up (up H nm0 none) d (some B') nm = some B := hB
 by_cases hd : nm = d
 ·subst hd
  rw [up_same] at hB'
  cases hB'
  exact .inl (by show nx ≤ B'.st; omega)
 rw [up_ne _ _ hd] at hB'
 by_cases h0 : nm = nm0
 ·subst h0; rw [up_same] at hB'; cases hB'
 rw [up_ne _ _ h0] at hB'
 exact .inr ⟨B, hB', rfl, rfl, rfl, up_ne _ _ hd⟩
theorem RW.newV (h : RW e H nx σ w) {nm0 d : Nat} {row : Option Nat} (hg : w.grownBy w' row) {B' : Blk} {v' : Value} (hst : B'.st = nx)
  (hrow : ∀ r, row = some r → obk (σ nm0) = some r ∧ ∃ B, H nm0 = some B)
  (hv : ∀ r, obk v' = some r → w.heap.size ≤ r ∨ (obk (σ nm0) = some r ∧ ∃ B, H nm0 = some B))
  (hnew : Ext (kx e H nx σ w) (kx e (up (up H nm0 none) d (some B')) (nx + 1) (up σ d v') w') → blkV (kx e (up (up H nm0 none) d (some B')) (nx + 1) (up σ d v') w') d B') :
  RW e (up (up H nm0 none) d (some B')) (nx + 1) (up σ d v') w' ∧ Ext (kx e H nx σ w) (kx e (up (up H nm0 none) d (some B')) (nx + 1) (up σ d v') w') := by
 have hext := ext_new (d := d) h hg hst hrow hv
 have old : ∀ nm B, nm ≠ d → up (up H nm0 none) d (some B') nm = some B → H nm = some B ∧ nm ≠ nm0 := fun nm B hd hB => by
  rw [up_ne _ _ hd] at hB
  by_cases h0 : nm = nm0
  ·subst h0; rw [up_same] at hB; cases hB
  rw [up_ne _ _ h0] at hB; exact ⟨hB, h0⟩
 have hnb : ∀ nm B, H nm = some B → nm ≠ nm0 → ∀ r, obk v' = some r → obk (σ nm) ≠ some r := fun nm B hB h0 r hr hs => by
  rcases hv r hr with h1 | ⟨h1, B0, h2⟩
  ·have := (h.lt hB hs).2; omega
  exact h.inj nm nm0 B B0 hB h2 h0 r hs h1
 refine ⟨⟨h.bel.grown hg h.size fun k hk => ?_, h.hT, fun nm B hB => ?_, fun nm nm' B B2 hB hB2 hne b hb => ?_⟩, hext⟩
 ·obtain ⟨h1, B0, h2⟩ := hrow k hk
  exact (h.lt h2 h1).1
 ·by_cases hdd : nm = d
  ·subst hdd
   rw [up_same] at hB
   cases hB
   exact ⟨by show B'.st < nx + 1; omega, hnew hext⟩
  obtain ⟨hB0, hne0⟩ := old nm B hdd hB
  refine ⟨by show B.st < nx + 1; exact Nat.lt_succ_of_lt (h.blk nm B hB0).1, (h.blk nm B hB0).2.kept hg ?_ rfl (up_ne _ _ hdd) hext⟩
  show obk (σ nm) = none ∨ obk (σ nm) ≠ row
  by_cases hn : obk (σ nm) = none
  ·exact .inl hn
  refine .inr fun e1 => ?_
  cases row with
  | none => exact hn e1
  | some r =>
   obtain ⟨h5, B0, h6⟩ := hrow r rfl
   exact h.inj nm nm0 B B0 hB0 h6 hne0 r e1 h5
 by_cases h1 : nm = d
 ·subst h1
  have h2 : nm' ≠ nm := fun e => hne e.symm
  rw [up_same] at hb
  rw [up_ne _ _ h2]
  obtain ⟨hB0, hne0⟩ := old nm' B2 h2 hB2
  exact hnb nm' B2 hB0 hne0 b hb
 rw [up_ne _ _ h1] at hb
 obtain ⟨hB0, hne0⟩ := old nm B h1 hB
 by_cases h2 : nm' = d
 ·subst h2
  rw [up_same]
  intro hv'
  exact hnb nm B hB0 hne0 b hv' hb
 rw [up_ne _ _ h2]
 obtain ⟨hB1, hne1⟩ := old nm' B2 h2 hB2
 exact h.inj nm nm' B B2 hB0 hB1 hne b hb
theorem RW.new (h : RW e H nx σ w) {nm0 d : Nat} {row : Option Nat} (hg : w.grownBy w' row) {B' : Blk} {v' : Value} {xs : List Value} (hst : B'.st = nx) (hsz : B'.sz ≠ 0) (hlen : B'.cs.length = B'.n * B'.sz)
  (hrow : ∀ r, row = some r → obk (σ nm0) = some r ∧ ∃ B, H nm0 = some B)
  (hv : ∀ r, obk v' = some r → w.heap.size ≤ r ∨ (obk (σ nm0) = some r ∧ ∃ B, H nm0 = some B))
  (ho : w'.ownsRow e.w0.heap.size B'.E B'.sz v' B'.n xs) (hd : denVs (kx e H nx σ w) xs B'.cs) :
  RW e (up (up H nm0 none) d (some B')) (nx + 1) (up σ d v') w' ∧ Ext (kx e H nx σ w) (kx e (up (up H nm0 none) d (some B')) (nx + 1) (up σ d v') w') :=
 h.newV hg hst hrow hv fun hext => .inl ⟨hsz, hlen, xs, by
  show w'.ownsRow _ _ _ (up σ d v' d) _ _
  rw [up_same]; exact ho, denVs_ext hext hd⟩
theorem RW.drop (h : RW e H nx σ w) (nm0 : Nat) : RW e (up H nm0 none) nx σ w ∧ Ext (kx e H nx σ w) (kx e (up H nm0 none) nx σ w) := by
 have old : ∀ nm B, up H nm0 none nm = some B → H nm = some B := fun nm B hB => by
  by_cases h0 : nm = nm0
  ·subst h0; rw [up_same] at hB; cases hB
  rw [up_ne _ _ h0] at hB; exact hB
 have hext : Ext (kx e H nx σ w) (kx e (up H nm0 none) nx σ w) :=
  ⟨Nat.le_refl _, fun b hb => ⟨⟨hb.1, hb.2.1, fun nm B hB => hb.2.2 nm B (old nm B hB)⟩, rfl⟩, fun nm B hB => .inr ⟨B, old nm B hB, rfl, rfl, rfl, rfl⟩⟩
 refine ⟨⟨h.bel, h.hT, fun nm B hB => ?_, fun nm nm' B B' hB hB' => h.inj nm nm' B B' (old nm B hB) (old nm' B' hB')⟩, hext⟩
 exact ⟨(h.blk nm B (old nm B hB)).1, (h.blk nm B (old nm B hB)).2.kept (row := none) ⟨rfl, rfl, rfl, Nat.le_refl _, fun _ _ _ => rfl⟩ (Classical.em _) rfl rfl hext⟩
theorem RW.publish (h : RW e H nx σ w) {nm : Nat} {B : Blk} (hB : H nm = some B) (hsz : B.sz ≠ 0) : den (kx e (up H nm none) nx σ w) (σ nm) (.sh B.sz B.n B.cs) := by
 obtain ⟨h1, h2, xs, h3, h4⟩ := h.rowOf hB (.inl hsz)
 have hext := (h.drop nm).2
 simp only [den]
 rcases h3.2 with ⟨hn, h5⟩ | ⟨g, cap, cur, hn, hb, hg, hc, hm, hs, ht⟩
 ·refine ⟨none, 0, ?_, by omega, by unfold maxLen; omega, fun _ => rfl, h2, .inl h5⟩
  rw [h5]; exact hn
 refine ⟨some ⟨g, 0, none⟩, cap, hn, hc, hm, by simp, h2, .inr ⟨g, 0, rfl, ?_, ?_⟩⟩
 ·have hob : obk (σ nm) = some g := by rw [hn]; rfl
  refine ⟨.inr hb, (h.lt hB hob).2, fun nm' B' hB' => ?_⟩
  have hB'' : up H nm none nm' = some B' := hB'
  by_cases h0 : nm' = nm
  ·subst h0; rw [up_same] at hB''; cases hB''
  rw [up_ne _ _ h0] at hB''
  intro e1
  exact h.inj nm' nm B' B hB'' hB h0 g e1 hob
 refine denM.of_vals (denVs_ext hext h4) fun j u hu => ?_
 have hadd : (⟨g, 0, none⟩ : Addr).add j = ⟨g, 0 + j, none⟩ := by unfold Addr.add; split <;> simp_all
 have := h3.cells (g := g) (by rw [hn]; rfl) j u hu
 rw [hadd] at this
 exact this
end
structure St where
 tm : Nat → AV
 H : Hp
 nx : Nat
 nb : Nat
structure Rel (e : En) (k0 : Kx) (N : Nat) (st : St) (a : Act) (w : World) : Prop where
 ex : ∃ σ, RW e st.H st.nx σ w ∧ (∀ t, denA (kx e st.H st.nx σ w) (a.tmps.getD t undef) (st.tm t)) ∧ Ext k0 (kx e st.H st.nx σ w)
 df : a.defers = []
 sz : a.tmps.size = N
def litA : Value → AV
 | .agg cs => if cs.toList.all Value.oneCell' then .val (.agg (cs.toList.map .lit)) else .dead
 | .tuple _ => .dead
 | v => .val (.one (.lit v))
def ev (st : St) : Operand → AV
 | .tmp t => st.tm t
 | .const v => litA v
 | .func f => .val (.one (.lit (.func (.func f) #[] #[])))
 | _ => .dead
theorem denVs_lits (κ : Kx) : ∀ (l : List Value), l.all Value.oneCell' = true → denVs κ l (l.map .lit)
 | [], _ => trivial
 | v :: l, h => by
  simp only [List.all_cons, Bool.and_eq_true] at h
  exact ⟨by simp only [den]; exact ⟨trivial, h.1⟩, denVs_lits κ l h.2⟩
theorem denA_lit (κ : Kx) (v : Value) : denA κ v (litA v) := by
 cases v with
 | agg cs =>
  simp only [litA]
  split
  ·rename_i h
   exact ⟨cs.toList, by simp, denVs_lits κ _ h⟩
  trivial
 | tuple _ => trivial
 | _ => simp only [litA, denA, den1, den]; exact ⟨trivial, rfl⟩
section
variable {e : En} {k0 : Kx} {N : Nat} {st : St} {a : Act} {w : World} {σ : Nat → Value} {κ : Kx}
theorem ev_den (h : ∀ t, denA κ (a.tmps.getD t undef) (st.tm t)) (x : Operand) : denA κ (a.eval x) (ev st x) := by
 cases x with
 | tmp t => exact h t
 | const v => exact denA_lit κ v
 | global g => trivial
 | func f => simp only [ev, denA, den1, den]; exact ⟨rfl, rfl⟩
theorem Rel.put {σ σ' : Nat → Value} {H' : Hp} {nx' : Nat} {w' : World} (hr : Rel e k0 N st a w) (hW : RW e H' nx' σ' w') (ht : ∀ t, denA (kx e st.H st.nx σ w) (a.tmps.getD t undef) (st.tm t)) (h0 : Ext k0 (kx e st.H st.nx σ w))
  (hx : Ext (kx e st.H st.nx σ w) (kx e H' nx' σ' w')) {v : Value} {x : AV} (hd : denA (kx e H' nx' σ' w') v x) (d : Nat) (hdN : d < N) :
  Rel e k0 N ⟨up st.tm d x, H', nx', st.nb⟩ (a.put (some d) v) w' := by
 refine ⟨⟨σ', hW, fun t => ?_, h0.trans hx⟩, hr.df, by simp [Act.put, hr.sz]⟩
 simp only [Act.put]
 by_cases htd : t = d
 ·subst htd
  rw [up_same]
  have : t < a.tmps.size := by rw [hr.sz]; exact hdN
  simpa [this] using hd
 rw [up_ne _ _ htd]
 have hne : ¬ d = t := fun e => htd e.symm
 have := denA_ext hx (ht t)
 simpa [Array.getD_eq_getD_getElem?, Array.getElem?_setIfInBounds, hne] using this
theorem Rel.skip {σ σ' : Nat → Value} {H' : Hp} {nx' : Nat} {w' : World} (hr : Rel e k0 N st a w) (hW : RW e H' nx' σ' w') (ht : ∀ t, denA (kx e st.H st.nx σ w) (a.tmps.getD t undef) (st.tm t)) (h0 : Ext k0 (kx e st.H st.nx σ w))
  (hx : Ext (kx e st.H st.nx σ w) (kx e H' nx' σ' w')) (v : Value) : Rel e k0 N ⟨st.tm, H', nx', st.nb⟩ (a.put none v) w' :=
 ⟨⟨σ', hW, fun t => denA_ext hx (ht t), h0.trans hx⟩, hr.df, hr.sz⟩
theorem Rel.drew (hr : Rel e k0 N st a w) : Rel e k0 N st a w.drew := by
 obtain ⟨σ, h1, h2, h3⟩ := hr.ex
 obtain ⟨k1, k2⟩ := h1.keep (grownBy_drew w)
 exact ⟨⟨σ, k1, fun t => denA_ext k2 (h2 t), h3.trans k2⟩, hr.df, hr.sz⟩
end
def ldT (P : Program) (t : TypeId) : Option (Bool × Nat) :=
 match P.underlying t, P.info? t with
 | some (.struct _), some i => some (true, i.size)
 | some (.array _ _), some i => some (true, i.size)
 | some _, some i => some (false, i.size)
 | _, _ => none
def foT (P : Program) (t : TypeId) (f : Nat) : Option (Nat × TypeId) :=
 match P.underlying t with
 | some (.struct fs) => match fs[f]? with
  | some f => match P.info? f.type with
   | some i => if i.size = 0 then none else some (f.offset, f.type)
   | none => none
  | none => none
 | _ => none
def elT (P : Program) (t : TypeId) : Option (TypeId × Nat × Nat) :=
 match P.underlying t with
 | some (.slice e) => (P.info? e).map fun i => (e, i.size, i.bytes)
 | _ => none
def arT (P : Program) (t : TypeId) : Option (Nat × TypeId × Nat) :=
 match P.underlying t with
 | some (.array n e) => (P.info? e).map fun i => (n, e, i.size)
 | _ => none
section
variable {P : Program} {w : World}
theorem ldT_agg {t : TypeId} {n : Nat} (h : ldT P t = some (true, n)) (w : World) : (isAgg t).run P w = .ok true w ∧ (sizeOf t).run P w = .ok n w := by
 unfold ldT at h
 split at h <;> simp at h
 ·rename_i h1 h2; subst h; constructor <;> simp [isAgg, sizeOf, underlying, typeInfo, h1, h2]
 rename_i h1 h2; subst h; constructor <;> simp [isAgg, sizeOf, underlying, typeInfo, h1, h2]
theorem ldT_one {t : TypeId} {n : Nat} (h : ldT P t = some (false, n)) (w : World) : (isAgg t).run P w = .ok false w ∧ (sizeOf t).run P w = .ok n w := by
 unfold ldT at h
 split at h <;> simp at h
 rename_i i d h1 h2 h3 h4
 subst h
 constructor
 ·simp only [isAgg, underlying, Sem.run_bind, run_program, Result.andThen_ok, h3]
  cases d <;> simp_all
 simp [sizeOf, typeInfo, h4]
theorem foT_run {t : TypeId} {f off : Nat} {ft : TypeId} (h : foT P t f = some (off, ft)) (b o : Nat) (w : World) : (Instr.fieldAt t (.pointer (some ⟨b, o, none⟩)) f).run P w = .ok (.pointer (some ⟨b, o + off, none⟩)) w := by
 unfold foT at h
 split at h <;> try (simp at h; done)
 rename_i fs h1
 split at h <;> try (simp at h; done)
 rename_i fl h2
 split at h <;> try (simp at h; done)
 rename_i i h3
 split at h <;> try (simp at h; done)
 rename_i h4
 have h5 : fl.offset = off := by have := Option.some.inj h; exact congrArg Prod.fst this
 have hadd : (⟨b, o, none⟩ : Addr).add off = ⟨b, o + off, none⟩ := by unfold Addr.add; split <;> simp_all
 simp [Instr.fieldAt, underlying, h1, h2, Instr.sureAddr, fieldPlace, sizeOf, typeInfo, h3, h4, h5, hadd]
theorem elT_run {t e : TypeId} {sz by_ : Nat} (h : elT P t = some (e, sz, by_)) : P.underlying t = some (.slice e) ∧ ∃ i, P.info? e = some i ∧ i.size = sz ∧ i.bytes = by_ := by
 unfold elT at h
 split at h <;> try (simp at h; done)
 rename_i e' h1
 cases hi : P.info? e' with
 | none => rw [hi] at h; cases h
 | some i =>
  rw [hi] at h
  simp at h
  obtain ⟨rfl, rfl, rfl⟩ := h
  exact ⟨h1, i, hi, rfl, rfl⟩
theorem indexAt_run {t e : TypeId} {sz by_ : Nat} (h : elT P t = some (e, sz, by_)) (k : IntKind) (i : Int) (b o n cap : Nat) (h0 : 0 ≤ i) (h1 : i < n) (w : World) :
  (Instr.indexAt t (.slice (some ⟨b, o, none⟩) n cap) (.int k i)).run P w = .ok (.pointer (some ⟨b, o + i.toNat * sz, none⟩)) w := by
 obtain ⟨h2, j, h3, h4, h5⟩ := elT_run h
 have hadd : (⟨b, o, none⟩ : Addr).add (i.toNat * sz) = ⟨b, o + i.toNat * sz, none⟩ := by unfold Addr.add; split <;> simp_all
 simp [Instr.indexAt, asIntOf, underlying, h2, h0, h1, sizeOf, typeInfo, h3, h4, hadd]
end
def inK (k : IntKind) (n : Int) : Prop := k.min ≤ n ∧ n ≤ k.max
def eqV : Value → Value → Bool
 | .int _ a, .int _ b => decide (a = b)
 | .bool a, .bool b => a == b
 | .string a, .string b => decide (a = b)
 | _, _ => false
def eqVs : List Value → List Value → Bool
 | [], [] => true
 | a :: l, b :: m => eqV a b && eqVs l m
 | _, _ => false
def litsOf : List C → Option (List Value)
 | [] => some []
 | .lit v :: l => (litsOf l).map (v :: ·)
 | _ => none
def EqOK (P : Program) (t : TypeId) (xs ys : List Value) : Prop := ∀ w, (Op.equal t (.agg xs.toArray) (.agg ys.toArray)).run P w = .ok (eqVs xs ys) w ∧ ((Program.eqGuardType P P.depth t) = false)
def abin (P : Program) (op : BinOp) (t : TypeId) : Value → Value → Option (Prop × Value)
 | .int k a, .int k' b =>
  match op with
  | .shl => some (0 ≤ b, .int k (k.wrap (a * 2 ^ (min b.toNat k.bits))))
  | .shr => some (0 ≤ b, .int k (a.fdiv (2 ^ (min b.toNat k.bits))))
  | _ =>
  if k ≠ k' then none else
  match op with
  | .add => if k = .i64 then some (inK k (a + b), .int k (a + b)) else some (True, .int k (k.wrap (a + b)))
  | .sub => if k = .i64 then some (inK k (a - b), .int k (a - b)) else some (True, .int k (k.wrap (a - b)))
  | .mul => if k = .i64 then some (inK k (a * b), .int k (a * b)) else some (True, .int k (k.wrap (a * b)))
  | .quo => some (b ≠ 0, .int k (k.wrap (a.tdiv b)))
  | .rem => some (b ≠ 0, .int k (a.tmod b))
  | .and => some (True, .int k (k.wrap (BitVec.ofInt k.bits a &&& BitVec.ofInt k.bits b).toNat))
  | .or => some (True, .int k (k.wrap (BitVec.ofInt k.bits a ||| BitVec.ofInt k.bits b).toNat))
  | .eql => some (True, .bool (decide (a = b)))
  | .neq => some (True, .bool (!decide (a = b)))
  | .lss => some (True, .bool (decide (a < b)))
  | .leq => some (True, .bool (decide (a ≤ b)))
  | .gtr => some (True, .bool (decide (b < a)))
  | .geq => some (True, .bool (decide (b ≤ a)))
  | _ => none
 | .string a, .string b =>
  match op with
  | .eql => some (True, .bool (decide (a = b)))
  | .neq => some (True, .bool (!decide (a = b)))
  | _ => none
 | .bool a, .bool b =>
  match op with
  | .eql => some (P.underlying t = some .bool, .bool (a == b))
  | .neq => some (P.underlying t = some .bool, .bool (!(a == b)))
  | _ => none
 | _, _ => none
theorem wrap_in {n : Int} (h : inK .i64 n) : IntKind.i64.wrap n = n := by
 have h1 : IntKind.i64.min = -9223372036854775808 := by decide
 have h2 : IntKind.i64.max = 9223372036854775807 := by decide
 unfold inK at h
 rw [h1, h2] at h
 rw [IntKind.wrap_i64]; omega
theorem strEq (a b : ByteArray) : (a.toList == b.toList) = decide (a = b) := by
 rw [Bool.eq_iff_iff]
 simp only [beq_iff_eq, decide_eq_true_eq, ByteArray.toList_eq]
 constructor
 ·intro h
  cases a; cases b
  simp only [ByteArray.mk.injEq]
  exact Array.toList_inj.1 h
 rintro rfl; rfl
theorem abin_run {P : Program} {op : BinOp} {t : TypeId} {x y : Operand} {u v r : Value} {p : Prop} (h : abin P op t u v = some (p, r)) (hp : p) (w : World) :
    ((eqGuard op t x y u v >>= fun _ => binOp op t u v).run P w) = .ok r w ∧ r.oneCell' = true := by
  cases u <;> try (simp only [abin] at h; cases h; done)
  · rename_i a
    cases v <;> try (simp only [abin] at h; cases h; done)
    rename_i b
    rw [eqGuard_at_bool]
    cases op <;> simp only [abin] at h <;> try (cases h; done)
    all_goals
      simp only [Option.some.injEq, Prod.mk.injEq] at h
      obtain ⟨rfl, rfl⟩ := h
      refine ⟨?_, rfl⟩
      have hu : P.underlying t = some .bool := hp
      have key : ∀ d, (Op.equalIn (d + 1) t (.bool a) (.bool b)).run P w = .ok (a == b) w := fun d => by simp [Op.equalIn, underlying, hu]
      have : (Op.equalIn Op.maxDepth t (.bool a) (.bool b)).run P w = .ok (a == b) w := key 9999
      simp [binOp, Op.equal, this]
  · rename_i k a
    cases v <;> try (simp only [abin] at h; cases h; done)
    rename_i k' b
    rw [eqGuard_at_int]
    have hw : ∀ n, inK .i64 n → IntKind.i64.wrap n = n := fun n => wrap_in
    by_cases hk : k = k'
    · subst hk
      cases op <;> simp only [abin, ne_eq, not_true_eq_false, if_false] at h <;> try (cases h; done)
      all_goals try (split at h; rename_i hk2; subst hk2)
      all_goals (simp only [Option.some.injEq, Prod.mk.injEq] at h; obtain ⟨rfl, rfl⟩ := h; refine ⟨?_, rfl⟩)
      all_goals first
        | (simp [binOp, Op.intArith, hw _ hp]; done)
        | (simp [binOp, Op.intArith]; done)
        | (have hp' : ¬ b = 0 := hp
           simp [binOp, Op.intDiv, hp']; done)
        | (have hp' : ¬ b < 0 := by simpa using hp
           simp [binOp, Op.shift, hp']; done)
        | (simp [binOp, Op.intBits]; done)
        | (simp [binOp, Op.intCmp]; done)
        | (simp [binOp, Op.intCmp]; rfl)
    cases op <;> simp only [abin, ne_eq, hk, not_false_eq_true, if_true] at h <;> try (cases h; done)
    all_goals
      simp only [Option.some.injEq, Prod.mk.injEq] at h
      obtain ⟨rfl, rfl⟩ := h
      refine ⟨?_, rfl⟩
      have hp' : ¬ b < 0 := by simpa using hp
      simp [binOp, Op.shift, hp']
  rename_i a
  cases v <;> try (simp only [abin] at h; cases h; done)
  rename_i b
  rw [eqGuard_at_string]
  cases op <;> simp only [abin] at h <;> try (cases h; done)
  all_goals simp only [Option.some.injEq, Prod.mk.injEq] at h
  · obtain ⟨rfl, rfl⟩ := h
    refine ⟨?_, rfl⟩
    simp only [Sem.run_bind, Sem.run_pure, Result.andThen_ok]
    rw [binOp_string_eql, strEq]; rfl
  obtain ⟨rfl, rfl⟩ := h
  refine ⟨?_, rfl⟩
  simp only [Sem.run_bind, Sem.run_pure, Result.andThen_ok]
  rw [binOp_string_neq, strEq]; rfl
end Go.Proofs.YtokmkopihhnggaaGreatDoor
