/- The builder's debts; walked by the abstract machine. -/
import Derived.Test.YtogeijhepjcbgaaGreatDoorBl2M
set_option linter.unusedVariables false
set_option linter.unusedSimpArgs false
set_option linter.defProp false
set_option linter.unnecessarySimpa false
/- The builder's debts; walked by the abstract machine. -/
namespace Go.Proofs.YtogeijhepjcbgaaGreatDoor
open Go Go.RowKit
theorem flat_set {α : Type} {f : α → List C} {sz : Nat} (hf : ∀ a, (f a).length = sz) (l : List α) (k : Nat) (x : α) (h : k < l.length) : spl (flat f l) (k * sz) (f x) = flat f (l.set k x) := by
  have h1 : flat f l = flat f (l.take k) ++ (f l[k] ++ flat f (l.drop (k + 1))) := by
    conv => lhs; rw [← List.take_append_drop k l, flat_append, List.drop_eq_getElem_cons h, flat_cons]
  have h2 : flat f (l.set k x) = flat f (l.take k) ++ (f x ++ flat f (l.drop (k + 1))) := by
    have hk : k < (l.set k x).length := by simpa using h
    conv => lhs; rw [← List.take_append_drop k (l.set k x), flat_append, List.drop_eq_getElem_cons hk, flat_cons]
    rw [List.getElem_set_self, List.drop_set]
    have : (l.set k x).take k = l.take k := by rw [List.take_set]; exact List.set_eq_of_length_le (by rw [List.length_take]; omega)
    rw [this]; simp
  have h3 : (flat f (l.take k)).length = k * sz := by rw [flat_length hf, List.length_take, Nat.min_eq_left (Nat.le_of_lt h)]
  rw [h1, h2, ← h3]
  exact spl_mid _ _ _ _ (by rw [hf, hf])
structure OS where
  k : Nat
  h : Int
  l : List Leg
def owS (debts : List GDebt) (p : N3) (i c : Nat) (y : GClaim) (s : OS) : OS :=
  if tkD i c debts = true then s else if (4 : Int) ≤ (s.l.length : Int) then s else
  if p.a / 2 ^ (s.k % 16) % 2 = 1 then (if (s.l.length : Int) = 0 then ⟨s.k + 1, y.holder, s.l ++ [((i : Int), (c : Int))]⟩ else if y.holder = s.h then ⟨s.k + 1, y.holder, s.l ++ [((i : Int), (c : Int))]⟩ else ⟨s.k + 1, s.h, s.l⟩) else ⟨s.k + 1, s.h, s.l⟩
def owC (debts : List GDebt) (p : N3) (i : Nat) : List GClaim → Nat → OS → OS
  | [], _, s => s
  | y :: l, c, s => owC debts p i l (c + 1) (owS debts p i c y s)
def owE (debts : List GDebt) (p : N3) : List GEst → Nat → OS → OS
  | [], _, s => s
  | e :: l, i, s => owE debts p l (i + 1) (owC debts p i e.claims 0 s)
theorem owS_k (debts : List GDebt) (p : N3) (i c : Nat) (y : GClaim) (s : OS) : (owS debts p i c y s).k ≤ s.k + 1 ∧ (s.l.length ≤ 4 → (owS debts p i c y s).l.length ≤ 4) := by
  unfold owS
  split
  · exact ⟨by omega, id⟩
  split
  · exact ⟨by omega, id⟩
  repeat' split
  all_goals first | (simp; done) | (simp; omega)
def swp (l : List Leg) (i j : Nat) : List Leg := (l.set i (l.getD j (0, 0))).set j (l.getD i (0, 0))
def rvL (l : List Leg) : Nat → List Leg
  | 0 => l
  | m + 1 => swp (rvL l m) m (l.length - 1 - m)
theorem rvL_len (l : List Leg) : ∀ m, (rvL l m).length = l.length
  | 0 => rfl
  | m + 1 => by simp [rvL, swp, rvL_len l m]
noncomputable def owN (g : GGrp) (p : N3) : GDebt := ⟨enc (qAmt p.c), if p.b % 2 = 1 then rvL (owE g.debts p g.ests 0 ⟨0, 0, []⟩).l ((owE g.debts p g.ests 0 ⟨0, 0, []⟩).l.length / 2) else (owE g.debts p g.ests 0 ⟨0, 0, []⟩).l⟩
def F_lOwe := And.intro zS (And.intro tf31 (And.intro tf48 (And.intro tf49 (And.intro tf18 (And.intro tf32 (And.intro tf19 (And.intro tf50 (And.intro tf20 (And.intro tf51 (And.intro tf21 (And.intro tf33 (And.intro tf52 (And.intro tf22 (And.intro tf36 (And.intro tf25 (And.intro tf53 (And.intro tf26 (And.intro tf54 (And.intro tf27 (And.intro tf55 (And.intro tf28 (And.intro tf14 (And.intro tf40 (And.intro tf41 (And.intro tf56 (And.intro tf57 (And.intro tf44 (And.intro tf45 (And.intro tf46 (And.intro tf58 (And.intro tf29 (tf30))))))))))))))))))))))))))))))))
end Go.Proofs.YtogeijhepjcbgaaGreatDoor
