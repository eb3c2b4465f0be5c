/- Tiers whose parts are rows of the call's own. No program in sight. -/
import Derived.Test.YtokmkopihhnggaaGreatDoorGu4M
set_option linter.unusedVariables false
set_option linter.unusedSimpArgs false
set_option linter.unusedSectionVars false
namespace Go.Proofs.YtokmkopihhnggaaGreatDoor
open Go Go.RowKit
noncomputable def tblW (q : Nat) (E : TypeId) (ps : List (WT × Nat)) : Hp := fun nm =>
 if 1000 ≤ nm ∧ nm % 1000 = q then (ps[nm / 1000 - 1]?).map fun p => ⟨p.2, E, 4, p.1.length, flat cWP p.1⟩ else none
theorem tbl_atW {q : Nat} {E : TypeId} {ps : List (WT × Nat)} {i : Nat} {p : WT × Nat} (hq : q < 1000) (h : ps[i]? = some p) : tblW q E ps (1000 * (i + 1) + q) = some ⟨p.2, E, 4, p.1.length, flat cWP p.1⟩ := by
 have h1 : (1000 * (i + 1) + q) / 1000 - 1 = i := by omega
 unfold tblW
 rw [if_pos (by omega), h1, h]; rfl
theorem tbl_someW {q : Nat} {E : TypeId} {ps : List (WT × Nat)} {nm : Nat} {B : Blk} (h : tblW q E ps nm = some B) : ∃ i p, nm = 1000 * (i + 1) + q ∧ ps[i]? = some p ∧ B = ⟨p.2, E, 4, p.1.length, flat cWP p.1⟩ := by
 unfold tblW at h
 split at h
 ·rename_i h1
  obtain ⟨p, h2, rfl⟩ := Option.map_eq_some_iff.1 h
  exact ⟨nm / 1000 - 1, p, by omega, h2, rfl⟩
 cases h
theorem tbl_subW {q : Nat} {E : TypeId} {ps : List (WT × Nat)} {H : Hp} (h : ∀ i p, ps[i]? = some p → H (1000 * (i + 1) + q) = some ⟨p.2, E, 4, p.1.length, flat cWP p.1⟩) (m : List Nat) : ∀ x B, tblW q E ps x = some B → hasN m x = true ∨ H x = some B := by
 intro x B hx
 obtain ⟨i, p, rfl, h1, rfl⟩ := tbl_someW hx
 exact .inr (h i p h1)
noncomputable def eRowW (f : Nat → WT × Nat → C) : List (WT × Nat) → Nat → List C
 | [], _ => []
 | p :: l, i => (f i p :: cRat (enc (wSum p.1))) ++ eRowW f l (i + 1)
noncomputable def fOwnW (q : Nat) (i : Nat) (p : WT × Nat) : C := .own (1000 * (i + 1) + q) p.2 p.1.length 4
noncomputable def fShW (_ : Nat) (p : WT × Nat) : C := .sh 4 p.1.length (flat cWP p.1)
def fNilW (_ : Nat) (_ : WT × Nat) : C := .lit (.slice none 0 0)
theorem eRow_lenW (f : Nat → WT × Nat → C) : ∀ (l : List (WT × Nat)) (i : Nat), (eRowW f l i).length = l.length * 4
 | [], _ => rfl
 | p :: l, i => by simp only [eRowW, cRat, List.length_append, List.length_cons, List.length_nil, eRow_lenW f l]; omega
theorem eRow_appendW (f : Nat → WT × Nat → C) : ∀ (l m : List (WT × Nat)) (i : Nat), eRowW f (l ++ m) i = eRowW f l i ++ eRowW f m (i + l.length)
 | [], m, i => by simp [eRowW]
 | p :: l, m, i => by
  simp only [List.cons_append, eRowW, eRow_appendW f l m (i + 1), List.length_cons, List.append_assoc]
  rw [Nat.add_assoc, Nat.add_comm 1]
theorem eRow_congrW {f g : Nat → WT × Nat → C} : ∀ (l : List (WT × Nat)) (i : Nat), (∀ j p, l[j]? = some p → f (i + j) p = g (i + j) p) → eRowW f l i = eRowW g l i
 | [], _, _ => rfl
 | p :: l, i, h => by
  have h0 := h 0 p rfl
  have h1 := eRow_congrW (f := f) (g := g) l (i + 1) fun j p hj => by
   have := h (j + 1) p (by simpa using hj)
   rwa [Nat.add_assoc, Nat.add_comm 1]
  simp only [Nat.add_zero] at h0
  simp only [eRowW, h0, h1]
theorem eRow_splitW (f : Nat → WT × Nat → C) (l : List (WT × Nat)) (j : Nat) (p : WT × Nat) (h : l[j]? = some p) :
  eRowW f l 0 = eRowW f (l.take j) 0 ++ ((f j p :: cRat (enc (wSum p.1))) ++ eRowW f (l.drop (j + 1)) (j + 1)) := by
 have hlt : j < l.length := (List.getElem?_eq_some_iff.1 h).1
 have hp : l[j] = p := (List.getElem?_eq_some_iff.1 h).2
 conv => lhs; rw [← List.take_append_drop j l, eRow_appendW]
 rw [List.drop_eq_getElem_cons hlt, hp]
 have : (l.take j).length = j := by rw [List.length_take]; omega
 rw [this, Nat.zero_add]; rfl
theorem take_len5W (f : Nat → WT × Nat → C) (l : List (WT × Nat)) (j : Nat) (h : j < l.length) : (eRowW f (l.take j) 0).length = j * 4 := by
 rw [eRow_lenW, List.length_take]; congr 1; omega
theorem eRow_atW (f : Nat → WT × Nat → C) (l : List (WT × Nat)) (j : Nat) (p : WT × Nat) (h : l[j]? = some p) :
  (eRowW f l 0).drop (j * 4) = (f j p :: cRat (enc (wSum p.1))) ++ eRowW f (l.drop (j + 1)) (j + 1) := by
 have hlt : j < l.length := (List.getElem?_eq_some_iff.1 h).1
 rw [eRow_splitW f l j p h, ← take_len5W f l j hlt, List.drop_left]
theorem eRow_get3W (f : Nat → WT × Nat → C) (l : List (WT × Nat)) (j : Nat) (p : WT × Nat) (h : l[j]? = some p) : (eRowW f l 0)[j * 4]? = some (f j p) := by
 rw [← List.head?_drop, eRow_atW f l j p h]; rfl
theorem eRow_set3W (f g : Nat → WT × Nat → C) (l : List (WT × Nat)) (j : Nat) (p p' : WT × Nat) (h : l[j]? = some p) (hc : wSum p'.1 = wSum p.1) (hg : ∀ i q, i ≠ j → l[i]? = some q → f i q = g i q) :
  (eRowW f l 0).set (j * 4) (g j p') = eRowW g (l.set j p') 0 := by
 have hlt : j < l.length := (List.getElem?_eq_some_iff.1 h).1
 have h' : (l.set j p')[j]? = some p' := by simp [hlt]
 have e1 : (l.set j p').take j = l.take j := by rw [List.take_set]; exact List.set_eq_of_length_le (by rw [List.length_take]; omega)
 have e2 : (l.set j p').drop (j + 1) = l.drop (j + 1) := by rw [List.drop_set]; simp
 rw [eRow_splitW f l j p h, eRow_splitW g (l.set j p') j p' h', e1, e2, hc]
 have t := take_len5W f l j hlt
 rw [List.set_append_right _ _ (by omega), t]
 rw [Nat.sub_self]
 congr 1
 ·refine eRow_congrW _ _ fun i q hq => ?_
  have hi : i < j := by
   have := (List.getElem?_eq_some_iff.1 hq).1
   rw [List.length_take] at this; omega
  rw [List.getElem?_take_of_lt hi] at hq
  have := hg i q (by omega) hq
  simpa using this
 simp only [List.cons_append, List.nil_append, List.set_cons_succ, List.set_cons_zero]
 congr 2
 refine eRow_congrW _ _ fun i q hq => ?_
 rw [List.getElem?_drop] at hq
 exact hg _ q (by omega) hq
noncomputable def tblSW (sel : Nat → Bool) (q : Nat) (E : TypeId) (ps : List (WT × Nat)) : Hp := fun nm => if sel (nm / 1000 - 1) then tblW q E ps nm else none
theorem tblS_allW (q : Nat) (E : TypeId) (ps : List (WT × Nat)) (sel : Nat → Bool) (h : ∀ i, i < ps.length → sel i = true) : tblSW sel q E ps = tblW q E ps := by
 funext nm
 unfold tblSW
 split
 ·rfl
 rename_i h1
 cases hx : tblW q E ps nm with
 | none => rfl
 | some B =>
  obtain ⟨i, p, rfl, h2, _⟩ := tbl_someW hx
  have h3 := h i (List.getElem?_eq_some_iff.1 h2).1
  have : (1000 * (i + 1) + q) / 1000 - 1 = i + q / 1000 := by omega
  have hq : q < 1000 := by
   unfold tblW at hx
   split at hx
   ·rename_i h4; omega
   cases hx
  rw [this, Nat.div_eq_of_lt hq] at h1
  exact absurd h3 h1
theorem tblS_noneW (q : Nat) (E : TypeId) (ps : List (WT × Nat)) (sel : Nat → Bool) (h : ∀ i, i < ps.length → sel i = false) : tblSW sel q E ps = fun _ => none := by
 funext nm
 unfold tblSW
 split
 ·rename_i h1
  cases hx : tblW q E ps nm with
  | none => rfl
  | some B =>
   obtain ⟨i, p, rfl, h2, _⟩ := tbl_someW hx
   have h3 := h i (List.getElem?_eq_some_iff.1 h2).1
   have : (1000 * (i + 1) + q) / 1000 - 1 = i + q / 1000 := by omega
   have hq : q < 1000 := by
    unfold tblW at hx
    split at hx
    ·rename_i h4; omega
    cases hx
   rw [this, Nat.div_eq_of_lt hq, Nat.add_zero, h3] at h1
   cases h1
 rfl
section
variable {P : Program} {e : En} {k0 : Kx} {N : Nat} {tm : Nat → AV} {nb s : Nat} {Q : Exit → St → Prop} {c : Code}
def mixLW (j : Nat) (f g : Nat → WT × Nat → C) : Nat → WT × Nat → C := fun i p => if i < j then f i p else g i p
theorem nil_stepW (q : Nat) (E E2 : TypeId) (hq : q < 1000) (nm2 : Nat) (m : List (Nat × Blk)) (hm : ∀ p ∈ m, p.1 < 1000) (hnm2 : nm2 < 1000) (n nx j : Nat) (ps : List (WT × Nat)) (p : WT × Nat) (hp : ps[j]? = some p) (hst : p.2 = nx) (hcl : p.1 = []) :
    Wk e k0 N ⟨tm, mkOn (tblSW (fun i => decide (i < j)) q E ps) ((nm2, ⟨s, E2, 4, n, eRowW (mixLW j (fOwnW q) fNilW) ps 0⟩) :: m), nx, nb⟩
      ⟨tm, mkOn (tblSW (fun i => decide (i < j + 1)) q E ps) ((nm2, ⟨s, E2, 4, n, eRowW (mixLW (j + 1) (fOwnW q) fNilW) ps 0⟩) :: m), nx + 1, nb⟩ := by
  intro a w hr
  have hlt : j < ps.length := (List.getElem?_eq_some_iff.1 hp).1
  have hpj : ps[j] = p := (List.getElem?_eq_some_iff.1 hp).2
  have h1 := rel_nil_cell (nm := nm2) (off := j * 4) (d := 1000 * (j + 1) + q) (B := ⟨s, E2, 4, n, eRowW (mixLW j (fOwnW q) fNilW) ps 0⟩) E 4 (by decide) (by
      show mkOn _ _ _ = _
      rw [mkOn.eq_2, up_same]) (by omega) (by show (4 : Nat) ≠ 0; decide)
    (by rw [eRow_get3W _ _ _ _ hp]; simp [mixLW, fNilW]) hr
  have hset : (eRowW (mixLW j (fOwnW q) fNilW) ps 0).set (j * 4) (.own (1000 * (j + 1) + q) nx 0 4) = eRowW (mixLW (j + 1) (fOwnW q) fNilW) ps 0 := by
    have h2 := eRow_set3W (mixLW j (fOwnW q) fNilW) (mixLW (j + 1) (fOwnW q) fNilW) ps j p p hp rfl (fun i x hi _ => by
      unfold mixLW
      by_cases h : i < j
      · rw [if_pos h, if_pos (by omega)]
      rw [if_neg h, if_neg (by omega)])
    have h3 : mixLW (j + 1) (fOwnW q) fNilW j p = .own (1000 * (j + 1) + q) nx 0 4 := by simp [mixLW, fOwnW, hst, hcl]
    rw [h3] at h2
    rw [h2]
    congr 1
    exact List.set_getElem_self hlt |> fun h => by rw [← hpj]; exact h
  rw [hset] at h1
  refine rel_keep _ _ (fun t => .inl rfl) (fun nm B hB => ?_) h1
  show up (up _ _ _) nm2 _ nm = some B
  rw [mkOn.eq_2, up_apply] at hB
  rw [up_apply]
  split
  · rename_i h; rw [if_pos h] at hB; exact hB
  rename_i h
  rw [if_neg h] at hB
  rw [up_apply]
  split
  · rename_i h4
    subst h4
    rw [mkOn_high (by omega) hm] at hB
    unfold tblSW at hB
    split at hB
    · rw [tbl_atW hq hp, hst, hcl] at hB; exact hB
    cases hB
  rename_i h4
  show mkOn _ _ _ = _
  rw [mkOn.eq_2, up_ne _ _ h]
  rw [← hB]
  refine mkOn_low ?_
  unfold tblSW
  cases hx : tblW q E ps nm with
  | none => split <;> split <;> rfl
  | some B' =>
    obtain ⟨i, p', rfl, h2, _⟩ := tbl_someW hx
    have e1 : (1000 * (i + 1) + q) / 1000 - 1 = i := by omega
    rw [e1]
    have hij : i ≠ j := fun e => h4 (by rw [e])
    by_cases hi : i < j
    · simp [hi, Nat.lt_succ_of_lt hi]
    have : ¬ i < j + 1 := by omega
    simp [hi, this]
theorem pub_stepW (q : Nat) (E E2 : TypeId) (hq : q < 1000) (nm2 : Nat) (m : List (Nat × Blk)) (hm : ∀ p ∈ m, p.1 < 1000) (hnm2 : nm2 < 1000) (n nx j : Nat) (ps : List (WT × Nat)) (p : WT × Nat) (hp : ps[j]? = some p) :
    Wk e k0 N ⟨tm, mkOn (tblSW (fun i => decide (j ≤ i)) q E ps) ((nm2, ⟨s, E2, 4, n, eRowW (mixLW j fShW (fOwnW q)) ps 0⟩) :: m), nx, nb⟩
      ⟨tm, mkOn (tblSW (fun i => decide (j + 1 ≤ i)) q E ps) ((nm2, ⟨s, E2, 4, n, eRowW (mixLW (j + 1) fShW (fOwnW q)) ps 0⟩) :: m), nx, nb⟩ := by
  intro a w hr
  have hlt : j < ps.length := (List.getElem?_eq_some_iff.1 hp).1
  have hpj : ps[j] = p := (List.getElem?_eq_some_iff.1 hp).2
  have e0 : (1000 * (j + 1) + q) / 1000 - 1 = j := by omega
  have h1 := rel_pub_cell (nm := 1000 * (j + 1) + q) (nm2 := nm2) (off := j * 4) (s := p.2) (n := p.1.length) (sz := 4) (B := ⟨p.2, E, 4, p.1.length, flat cWP p.1⟩) (B2 := ⟨s, E2, 4, n, eRowW (mixLW j fShW (fOwnW q)) ps 0⟩)
    (by show mkOn _ _ _ = _
        rw [mkOn.eq_2, up_ne _ _ (by omega), mkOn_high (by omega) hm]
        unfold tblSW
        rw [e0, if_pos (by simp)]; exact tbl_atW hq hp)
    (by show mkOn _ _ _ = _
        rw [mkOn.eq_2, up_same]) (by omega) (by show (4 : Nat) ≠ 0; decide) (by show (4 : Nat) ≠ 0; decide) rfl
    (by rw [eRow_get3W _ _ _ _ hp]; simp [mixLW, fOwnW]) hr
  have hset : (eRowW (mixLW j fShW (fOwnW q)) ps 0).set (j * 4) (.sh 4 p.1.length (flat cWP p.1)) = eRowW (mixLW (j + 1) fShW (fOwnW q)) ps 0 := by
    have h2 := eRow_set3W (mixLW j fShW (fOwnW q)) (mixLW (j + 1) fShW (fOwnW q)) ps j p p hp rfl (fun i x hi _ => by
      unfold mixLW
      by_cases h : i < j
      · rw [if_pos h, if_pos (by omega)]
      rw [if_neg h, if_neg (by omega)])
    have h3 : mixLW (j + 1) fShW (fOwnW q) j p = .sh 4 p.1.length (flat cWP p.1) := by simp [mixLW, fShW]
    rw [h3] at h2
    rw [h2]
    congr 1
    exact List.set_getElem_self hlt |> fun h => by rw [← hpj]; exact h
  simp only [] at h1
  rw [hset] at h1
  refine rel_keep _ _ (fun t => .inl rfl) (fun nm B hB => ?_) h1
  show up (up _ _ _) nm2 _ nm = some B
  rw [mkOn.eq_2, up_apply] at hB
  rw [up_apply]
  split
  · rename_i h; rw [if_pos h] at hB; exact hB
  rename_i h
  rw [if_neg h] at hB
  rw [up_apply]
  split
  · rename_i h4
    subst h4
    rw [mkOn_high (by omega) hm] at hB
    unfold tblSW at hB
    rw [e0, if_neg (by simp)] at hB
    cases hB
  rename_i h4
  show mkOn _ _ _ = _
  rw [mkOn.eq_2, up_ne _ _ h]
  rw [← hB]
  refine mkOn_low ?_
  unfold tblSW
  cases hx : tblW q E ps nm with
  | none => split <;> split <;> rfl
  | some B' =>
    obtain ⟨i, p', rfl, h2, _⟩ := tbl_someW hx
    have e1 : (1000 * (i + 1) + q) / 1000 - 1 = i := by omega
    rw [e1]
    have hij : i ≠ j := fun e => h4 (by rw [e])
    by_cases hi : j ≤ i
    · have : j + 1 ≤ i := by omega
      simp [hi, this]
    have : ¬ j + 1 ≤ i := by omega
    simp [hi, this]
theorem wk_nilsW (q : Nat) (E E2 : TypeId) (hq : q < 1000) (nm2 : Nat) (m : List (Nat × Blk)) (hm : ∀ p ∈ m, p.1 < 1000) (hnm2 : nm2 < 1000) (n nx : Nat) (ps : List (WT × Nat)) (h : ∀ (j : Nat) p, ps[j]? = some p → p.2 = nx + j ∧ p.1 = []) :
    Wk e k0 N ⟨tm, mkOn (fun _ => none) ((nm2, ⟨s, E2, 4, n, eRowW fNilW ps 0⟩) :: m), nx, nb⟩ ⟨tm, mkOn (tblW q E ps) ((nm2, ⟨s, E2, 4, n, eRowW (fOwnW q) ps 0⟩) :: m), nx + ps.length, nb⟩ := by
  have key : ∀ j, j ≤ ps.length → Wk e k0 N ⟨tm, mkOn (tblSW (fun i => decide (i < 0)) q E ps) ((nm2, ⟨s, E2, 4, n, eRowW (mixLW 0 (fOwnW q) fNilW) ps 0⟩) :: m), nx, nb⟩
      ⟨tm, mkOn (tblSW (fun i => decide (i < j)) q E ps) ((nm2, ⟨s, E2, 4, n, eRowW (mixLW j (fOwnW q) fNilW) ps 0⟩) :: m), nx + j, nb⟩ := by
    intro j
    induction j with
    | zero => intro _; exact Wk.refl _
    | succ j ih =>
      intro hj
      have h1 := h j _ (List.getElem?_eq_getElem (by omega))
      exact Wk.trans (ih (by omega)) (nil_stepW q E E2 hq nm2 m hm hnm2 n (nx + j) j ps _ (List.getElem?_eq_getElem (by omega)) h1.1 h1.2)
  have h1 := key ps.length (Nat.le_refl _)
  rw [tblS_noneW q E ps _ (fun i _ => by simp), tblS_allW q E ps _ (fun i hi => by simp [hi]),
    eRow_congrW (f := mixLW 0 (fOwnW q) fNilW) (g := fNilW) ps 0 (fun i p _ => by simp [mixLW]),
    eRow_congrW (f := mixLW ps.length (fOwnW q) fNilW) (g := fOwnW q) ps 0 (fun i p hi => by have := (List.getElem?_eq_some_iff.1 hi).1; simp [mixLW, this])] at h1
  exact h1
theorem wk_pubsW (q : Nat) (E E2 : TypeId) (hq : q < 1000) (nm2 : Nat) (m : List (Nat × Blk)) (hm : ∀ p ∈ m, p.1 < 1000) (hnm2 : nm2 < 1000) (n nx : Nat) (ps : List (WT × Nat)) :
    Wk e k0 N ⟨tm, mkOn (tblW q E ps) ((nm2, ⟨s, E2, 4, n, eRowW (fOwnW q) ps 0⟩) :: m), nx, nb⟩ ⟨tm, mkOn (fun _ => none) ((nm2, ⟨s, E2, 4, n, eRowW fShW ps 0⟩) :: m), nx, nb⟩ := by
  have key : ∀ j, j ≤ ps.length → Wk e k0 N ⟨tm, mkOn (tblSW (fun i => decide (0 ≤ i)) q E ps) ((nm2, ⟨s, E2, 4, n, eRowW (mixLW 0 fShW (fOwnW q)) ps 0⟩) :: m), nx, nb⟩
      ⟨tm, mkOn (tblSW (fun i => decide (j ≤ i)) q E ps) ((nm2, ⟨s, E2, 4, n, eRowW (mixLW j fShW (fOwnW q)) ps 0⟩) :: m), nx, nb⟩ := by
    intro j
    induction j with
    | zero => intro _; exact Wk.refl _
    | succ j ih =>
      intro hj
      exact Wk.trans (ih (by omega)) (pub_stepW q E E2 hq nm2 m hm hnm2 n nx j ps _ (List.getElem?_eq_getElem (by omega)))
  have h1 := key ps.length (Nat.le_refl _)
  rw [tblS_allW q E ps (fun i => decide (0 ≤ i)) (fun i _ => by simp), tblS_noneW q E ps (fun i => decide (ps.length ≤ i)) (fun i hi => by simp; omega),
    eRow_congrW (f := mixLW 0 fShW (fOwnW q)) (g := fOwnW q) ps 0 (fun i p _ => by simp [mixLW]),
    eRow_congrW (f := mixLW ps.length fShW (fOwnW q)) (g := fShW) ps 0 (fun i p hi => by have := (List.getElem?_eq_some_iff.1 hi).1; simp [mixLW, this])] at h1
  exact h1
end
end Go.Proofs.YtokmkopihhnggaaGreatDoor
