/- The builder's debts; walked by the abstract machine. -/
import Derived.Test.YtmbahnmhicdjfaaGreatDoorBl2M
set_option linter.unusedVariables false
set_option linter.unusedSimpArgs false
set_option linter.defProp false
set_option linter.unnecessarySimpa false
/- The builder's debts; walked by the abstract machine. -/
namespace Go.Proofs.YtmbahnmhicdjfaaGreatDoor
open Go Go.RowKit
theorem flat_set {α : Type} {f : α → List C} {sz : Nat} (hf : ∀ a, (f a).length = sz) (l : List α) (k : Nat) (x : α) (h : k < l.length) : spl (flat f l) (k * sz) (f x) = flat f (l.set k x) := by
  have h1 : flat f l = flat f (l.take k) ++ (f l[k] ++ flat f (l.drop (k + 1))) := by
    conv => lhs; rw [← List.take_append_drop k l, flat_append, List.drop_eq_getElem_cons h, flat_cons]
  have h2 : flat f (l.set k x) = flat f (l.take k) ++ (f x ++ flat f (l.drop (k + 1))) := by
    have hk : k < (l.set k x).length := by simpa using h
    conv => lhs; rw [← List.take_append_drop k (l.set k x), flat_append, List.drop_eq_getElem_cons hk, flat_cons]
    rw [List.getElem_set_self, List.drop_set]
    have : (l.set k x).take k = l.take k := by rw [List.take_set]; exact List.set_eq_of_length_le (by rw [List.length_take]; omega)
    rw [this]; simp
  have h3 : (flat f (l.take k)).length = k * sz := by rw [flat_length hf, List.length_take, Nat.min_eq_left (Nat.le_of_lt h)]
  rw [h1, h2, ← h3]
  exact spl_mid _ _ _ _ (by rw [hf, hf])
structure OS where
  k : Nat
  h : Int
  l : List Leg
end Go.Proofs.YtmbahnmhicdjfaaGreatDoor
