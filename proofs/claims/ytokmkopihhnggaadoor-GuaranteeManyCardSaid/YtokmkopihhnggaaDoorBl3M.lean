/- The builder's debts; walked by the abstract machine. -/
import Derived.Test.YtokmkopihhnggaaDoorBl2M
import Derived.Test.YtokmkopihhnggaaDoorRw6M
set_option linter.unusedVariables false
set_option linter.unusedSimpArgs false
set_option linter.defProp false
set_option linter.unnecessarySimpa false
set_option linter.unusedSectionVars false
section
/- The builder's debts; walked by the abstract machine. -/
namespace Go.Proofs.YtokmkopihhnggaaDoor
open Go Go.RowKit
structure OS where
  k : Nat
  h : Int
  l : List Leg
end Go.Proofs.YtokmkopihhnggaaDoor
end
section
/- The builder of groups: what its loops keep, in plain terms; cells that say less. No program in sight. -/
namespace Go.Proofs.YtokmkopihhnggaaDoor
open Go Go.RowKit
section
variable {P : Program} {e : En} {k0 : Kx} {N : Nat} {st : St} {a : Act} {w : World} {Q : Exit → St → Prop} {c : Code}
theorem wk_cells (nm : Nat) {B : Blk} (cs' : List C) (hB : st.H nm = some B) (hsz : B.sz ≠ 0) (hl : cs'.length = B.cs.length) (h : ∀ (κ : Kx) (vs : List Value), denVs κ vs B.cs → denVs κ vs cs') :
    Wk e k0 N st ⟨st.tm, up st.H nm (some { B with cs := cs' }), st.nx, st.nb⟩ := by
  intro a w hr
  obtain ⟨σ, h1, h2, h3⟩ := hr.ex
  obtain ⟨g1, g2, xs, g3, g4⟩ := h1.rowOf hB (.inl hsz)
  obtain ⟨m1, m2⟩ := h1.upd (w' := w) hB ⟨rfl, rfl, rfl, Nat.le_refl _, fun _ _ _ => rfl⟩ (cs := cs') hsz (by rw [hl]; exact g2) g3 (h _ _ g4)
  exact ⟨⟨_, m1, fun t' => denA_ext m2 (h2 t'), h3.trans m2⟩, hr.df, hr.sz⟩
end
theorem den_nilsh {κ : Kx} {v : Value} (sz : Nat) (h : den κ v (.lit (.slice none 0 0))) : den κ v (.sh sz 0 []) := by
  simp only [den] at h ⊢
  exact ⟨none, 0, h.1, Nat.le_refl _, by unfold maxLen; omega, fun _ => rfl, by simp, .inl trivial⟩
theorem denVs_cons {κ : Kx} {vs : List Value} {c : C} {cs : List C} (h : denVs κ vs (c :: cs)) : ∃ v vs', vs = v :: vs' ∧ den κ v c ∧ denVs κ vs' cs := by
  cases vs with
  | nil => exact h.elim
  | cons v vs => exact ⟨v, vs, rfl, h.1, h.2⟩
theorem flat_setf {α : Type} {f : α → List C} {sz : Nat} (hf : ∀ a, (f a).length = sz) (l : List α) (k o : Nat) (ds : List C) (x : α) (h : k < l.length) (ho : o + ds.length ≤ sz) (hx : spl (f l[k]) o ds = f x) : spl (flat f l) (k * sz + o) ds = flat f (l.set k x) := by
  have h1 : flat f l = flat f (l.take k) ++ (f l[k] ++ flat f (l.drop (k + 1))) := by
    conv => lhs; rw [← List.take_append_drop k l, flat_append, List.drop_eq_getElem_cons h, flat_cons]
  have h2 : flat f (l.set k x) = flat f (l.take k) ++ (f x ++ flat f (l.drop (k + 1))) := by
    have hk : k < (l.set k x).length := by simpa using h
    conv => lhs; rw [← List.take_append_drop k (l.set k x), flat_append, List.drop_eq_getElem_cons hk, flat_cons]
    rw [List.getElem_set_self, List.drop_set]
    have : (l.set k x).take k = l.take k := by rw [List.take_set]; exact List.set_eq_of_length_le (by rw [List.length_take]; omega)
    rw [this]; simp
  have h3 : (flat f (l.take k)).length = k * sz := by rw [flat_length hf, List.length_take, Nat.min_eq_left (Nat.le_of_lt h)]
  have hlen := hf l[k]
  have e1 : f l[k] = (f l[k]).take o ++ (((f l[k]).drop o).take ds.length ++ (f l[k]).drop (o + ds.length)) := by
    rw [← List.drop_drop, List.take_append_drop, List.take_append_drop]
  have e2 : f x = (f l[k]).take o ++ (ds ++ (f l[k]).drop (o + ds.length)) := by
    rw [← hx]
    conv => lhs; rw [e1]
    have : o = ((f l[k]).take o).length := by rw [List.length_take, hlen]; omega
    conv => lhs; arg 2; rw [this]
    exact spl_mid _ _ _ _ (by rw [List.length_take, List.length_drop, hlen]; omega)
  have e4 : k * sz + o = (flat f (l.take k) ++ (f l[k]).take o).length := by
    rw [List.length_append, h3, List.length_take, hlen]; omega
  have e3 : flat f l = (flat f (l.take k) ++ (f l[k]).take o) ++ (((f l[k]).drop o).take ds.length ++ ((f l[k]).drop (o + ds.length) ++ flat f (l.drop (k + 1)))) := by
    conv => lhs; rw [h1, e1]
    simp only [List.append_assoc]
  rw [e3, e4, spl_mid _ _ _ _ (by rw [List.length_take, List.length_drop, hlen]; omega), h2, e2]
  simp only [List.append_assoc]
end Go.Proofs.YtokmkopihhnggaaDoor
end
section
/- Plain numbers, rows of numbers and rows of fixed rows of numbers, opened as cells. -/
namespace Go.Proofs.YtokmkopihhnggaaDoor
open Go Go.RowKit Go.ChangeShapes Go.WideShapes Go.ChangeAt
theorem opensC_u8 : Opens Tryd.prog 5 (rC (fun n : Nat => [.lit (.int .u8 n)]) (· < 256)) := by
  intro H enc W fuel cs x h
  obtain ⟨n, rfl, hn⟩ := opens_u8 Tryd.underlying5 H enc W fuel cs x h
  exact ⟨n, ⟨⟨rfl, rfl⟩, trivial⟩, hn⟩
end Go.Proofs.YtokmkopihhnggaaDoor
end
