/- The abstract machine: another base of names; a cell's row published; a table of rows. No program in sight. -/
import Derived.Test.YtogeijhepjcbgaaGreatDoorAbGM
set_option linter.unusedVariables false
set_option linter.unusedSimpArgs false
set_option linter.defProp false
set_option linter.unnecessarySimpa false
set_option linter.unusedSectionVars false
/- The abstract machine: another base of names; a cell's row published; a table of rows. No program in sight. -/
namespace Go.Proofs.YtogeijhepjcbgaaGreatDoor
open Go Go.RowKit
section
variable {P : Program} {e : En} {k0 : Kx} {N : Nat} {st : St} {a : Act} {w : World} {Q : Exit → St → Prop} {c : Code}
theorem rel_pub_cell {nm nm2 off s n sz : Nat} {B B2 : Blk} (hB : st.H nm = some B) (hB2 : st.H nm2 = some B2) (hne : nm2 ≠ nm) (hsz : B.sz ≠ 0) (hsz2 : B2.sz ≠ 0) (hs : B.st = s) (hc : B2.cs[off]? = some (.own nm s n sz)) (hr : Rel e k0 N st a w) :
    Rel e k0 N ⟨st.tm, up (up st.H nm none) nm2 (some { B2 with cs := B2.cs.set off (.sh sz n B.cs) }), st.nx, st.nb⟩ a w := by
  obtain ⟨σ, h1, h2, h3⟩ := hr.ex
  obtain ⟨k1, k2⟩ := h1.drop nm
  have hp := h1.publish hB hsz
  have hB' : up st.H nm none nm2 = some B2 := by rw [up_ne _ _ hne]; exact hB2
  obtain ⟨g1, g2, xs, g3, g4⟩ := h1.rowOf hB2 (.inl hsz2)
  obtain ⟨u, q1, q2⟩ := g4.get off hc
  simp only [den] at q2
  obtain ⟨r1, r2, r3⟩ := q2.2.2 B hB hs
  have hlt : off < xs.length := (List.getElem?_eq_some_iff.1 q1).1
  have hxu : xs[off] = u := (List.getElem?_eq_some_iff.1 q1).2
  have hset : xs.set off u = xs := by rw [← hxu]; exact List.set_getElem_self hlt
  have hu : den (kx e (up st.H nm none) st.nx σ w) u (.sh sz n B.cs) := by
    rw [← r2, ← r3, r1]; exact hp
  have hd := (denVs_ext k2 g4).set off hu
  rw [hset] at hd
  obtain ⟨m1, m2⟩ := k1.upd (w' := w) hB' ⟨rfl, rfl, rfl, Nat.le_refl _, fun _ _ _ => rfl⟩ (cs := B2.cs.set off (.sh sz n B.cs)) hsz2 (by simpa using g2) g3 hd
  exact ⟨⟨_, m1, fun t' => denA_ext (k2.trans m2) (h2 t'), h3.trans (k2.trans m2)⟩, hr.df, hr.sz⟩
theorem awp_pubc (nm nm2 off : Nat) {s n sz : Nat} {B B2 : Blk} (hB : st.H nm = some B) (hB2 : st.H nm2 = some B2) (hc : B2.cs[off]? = some (.own nm s n sz)) (hne : nm2 ≠ nm) (hsz : B.sz ≠ 0) (hsz2 : B2.sz ≠ 0) (hs : B.st = s)
    (h : Awp P e k0 N c Q ⟨st.tm, up (up st.H nm none) nm2 (some { B2 with cs := B2.cs.set off (.sh sz n B.cs) }), st.nx, st.nb⟩) : Awp P e k0 N c Q st := awp_wk (fun _ _ hr => rel_pub_cell hB hB2 hne hsz hsz2 hs hc hr) h
end
def eRow (f : Nat → GEst × Nat → C) : List (GEst × Nat) → Nat → List C
  | [], _ => []
  | p :: l, i => [.lit (.bool p.1.cash.neg), .lit (.string p.1.cash.num), .lit (.string p.1.cash.den), f i p, .lit (.slice none 0 0)] ++ eRow f l (i + 1)
def fSh (_ : Nat) (p : GEst × Nat) : C := .sh 5 p.1.claims.length (flat cClaim p.1.claims)
def fNil (_ : Nat) (_ : GEst × Nat) : C := .lit (.slice none 0 0)
theorem eRow_len (f : Nat → GEst × Nat → C) : ∀ (l : List (GEst × Nat)) (i : Nat), (eRow f l i).length = l.length * 5
  | [], _ => rfl
  | p :: l, i => by simp only [eRow, List.length_append, List.length_cons, List.length_nil, eRow_len f l]; omega
theorem eRow_append (f : Nat → GEst × Nat → C) : ∀ (l m : List (GEst × Nat)) (i : Nat), eRow f (l ++ m) i = eRow f l i ++ eRow f m (i + l.length)
  | [], m, i => by simp [eRow]
  | p :: l, m, i => by
    simp only [List.cons_append, eRow, eRow_append f l m (i + 1), List.length_cons, List.append_assoc]
    rw [Nat.add_assoc, Nat.add_comm 1]
theorem eRow_congr {f g : Nat → GEst × Nat → C} : ∀ (l : List (GEst × Nat)) (i : Nat), (∀ j p, l[j]? = some p → f (i + j) p = g (i + j) p) → eRow f l i = eRow g l i
  | [], _, _ => rfl
  | p :: l, i, h => by
    have h0 := h 0 p rfl
    have h1 := eRow_congr (f := f) (g := g) l (i + 1) fun j p hj => by
      have := h (j + 1) p (by simpa using hj)
      rwa [Nat.add_assoc, Nat.add_comm 1]
    simp only [Nat.add_zero] at h0
    simp only [eRow, h0, h1]
theorem eRow_split (f : Nat → GEst × Nat → C) (l : List (GEst × Nat)) (j : Nat) (p : GEst × Nat) (h : l[j]? = some p) :
    eRow f l 0 = eRow f (l.take j) 0 ++ ([.lit (.bool p.1.cash.neg), .lit (.string p.1.cash.num), .lit (.string p.1.cash.den), f j p, .lit (.slice none 0 0)] ++ eRow f (l.drop (j + 1)) (j + 1)) := by
  have hlt : j < l.length := (List.getElem?_eq_some_iff.1 h).1
  have hp : l[j] = p := (List.getElem?_eq_some_iff.1 h).2
  conv => lhs; rw [← List.take_append_drop j l, eRow_append]
  rw [List.drop_eq_getElem_cons hlt, hp]
  have : (l.take j).length = j := by rw [List.length_take]; omega
  rw [this, Nat.zero_add]; rfl
theorem take_len5 (f : Nat → GEst × Nat → C) (l : List (GEst × Nat)) (j : Nat) (h : j < l.length) : (eRow f (l.take j) 0).length = j * 5 := by
  rw [eRow_len, List.length_take]; congr 1; omega
theorem eRow_at (f : Nat → GEst × Nat → C) (l : List (GEst × Nat)) (j : Nat) (p : GEst × Nat) (h : l[j]? = some p) :
    (eRow f l 0).drop (j * 5) = [.lit (.bool p.1.cash.neg), .lit (.string p.1.cash.num), .lit (.string p.1.cash.den), f j p, .lit (.slice none 0 0)] ++ eRow f (l.drop (j + 1)) (j + 1) := by
  have hlt : j < l.length := (List.getElem?_eq_some_iff.1 h).1
  rw [eRow_split f l j p h, ← take_len5 f l j hlt, List.drop_left]
theorem eRow_at3 (f : Nat → GEst × Nat → C) (l : List (GEst × Nat)) (j : Nat) (p : GEst × Nat) (h : l[j]? = some p) :
    (eRow f l 0).drop (j * 5 + 3) = f j p :: .lit (.slice none 0 0) :: eRow f (l.drop (j + 1)) (j + 1) := by
  rw [← List.drop_drop, eRow_at f l j p h]; rfl
theorem eRow_get3 (f : Nat → GEst × Nat → C) (l : List (GEst × Nat)) (j : Nat) (p : GEst × Nat) (h : l[j]? = some p) : (eRow f l 0)[j * 5 + 3]? = some (f j p) := by
  rw [← List.head?_drop, eRow_at3 f l j p h]; rfl
theorem eRow_set3 (f g : Nat → GEst × Nat → C) (l : List (GEst × Nat)) (j : Nat) (p p' : GEst × Nat) (h : l[j]? = some p) (hc : p'.1.cash = p.1.cash) (hg : ∀ i q, i ≠ j → l[i]? = some q → f i q = g i q) :
    (eRow f l 0).set (j * 5 + 3) (g j p') = eRow g (l.set j p') 0 := by
  have hlt : j < l.length := (List.getElem?_eq_some_iff.1 h).1
  have h' : (l.set j p')[j]? = some p' := by simp [hlt]
  have e1 : (l.set j p').take j = l.take j := by rw [List.take_set]; exact List.set_eq_of_length_le (by rw [List.length_take]; omega)
  have e2 : (l.set j p').drop (j + 1) = l.drop (j + 1) := by rw [List.drop_set]; simp
  rw [eRow_split f l j p h, eRow_split g (l.set j p') j p' h', e1, e2, hc]
  have t := take_len5 f l j hlt
  rw [List.set_append_right _ _ (by omega), t]
  have : j * 5 + 3 - j * 5 = 3 := by omega
  rw [this]
  congr 1
  · refine eRow_congr _ _ fun i q hq => ?_
    have hi : i < j := by
      have := (List.getElem?_eq_some_iff.1 hq).1
      rw [List.length_take] at this; omega
    rw [List.getElem?_take_of_lt hi] at hq
    have := hg i q (by omega) hq
    simpa using this
  · simp only [List.cons_append, List.nil_append, List.set_cons_succ, List.set_cons_zero]
    congr 5
    refine eRow_congr _ _ fun i q hq => ?_
    rw [List.getElem?_drop] at hq
    exact hg _ q (by omega) hq
theorem spl_one (cs : List C) (off : Nat) (c : C) (h : off < cs.length) : spl cs off [c] = cs.set off c := by
  induction cs generalizing off with
  | nil => simp at h
  | cons d cs ih =>
    cases off with
    | zero => rw [spl_cons0, spl_nil]; rfl
    | succ n => rw [spl_succ, ih n (by simpa using h)]; rfl
section
variable {P : Program} {e : En} {k0 : Kx} {N : Nat} {tm : Nat → AV} {nb s : Nat} {Q : Exit → St → Prop} {c : Code}
def mixL (j : Nat) (f g : Nat → GEst × Nat → C) : Nat → GEst × Nat → C := fun i p => if i < j then f i p else g i p
end
end Go.Proofs.YtogeijhepjcbgaaGreatDoor
