/- The groups that are built: short numbers, few elements. No program in sight. -/
import Derived.Test.YtokmkopihhnggaaGreatDoorBl5M
import Derived.Test.YtokmkopihhnggaaGreatDoorFewM
import Derived.Test.YtokmkopihhnggaaGreatDoorAbBM
set_option linter.unusedVariables false
set_option linter.unusedSimpArgs false
set_option linter.unusedSectionVars false
namespace Go.Proofs.YtokmkopihhnggaaGreatDoor
open Go Go.RowKit
theorem qB_small (n : Nat) (h : n < 256) : qB 1 (((n : Nat) : Int) : Rat) := ⟨by simp; omega, by simp⟩
theorem foldl_ok {α : Type} {Pr : GEst → Prop} (f : List GEst → α → List GEst) (hf : ∀ es x, (∀ e ∈ es, Pr e) → ∀ e ∈ f es x, Pr e) : ∀ (l : List α) (es : List GEst), (∀ e ∈ es, Pr e) → ∀ e ∈ l.foldl f es, Pr e
 | [], _, h => h
 | x :: l, es, h => foldl_ok f hf l (f es x) (hf es x h)
theorem foldl_lenE {α : Type} (f : List GEst → α → List GEst) (hf : ∀ es x, (f es x).length = es.length) : ∀ (l : List α) (es : List GEst), (l.foldl f es).length = es.length
 | [], _ => rfl
 | x :: l, es => (foldl_lenE f hf l (f es x)).trans (hf es x)
theorem grpE_len (n : Nat) (cash : List Nat) (list : List N4) (pools : List N3) : (grpE n cash list pools).length = 1 + n % 4 := by
 unfold grpE
 rw [foldl_lenE _ (addAg_length _), foldl_lenE _ (addClaim_length _)]; simp
theorem den1s_cons {κ : Kx} {vs : List Value} {a : A1} {l : List A1} (h : den1s κ vs (a :: l)) : ∃ v vs', vs = v :: vs' ∧ den1 κ v a ∧ den1s κ vs' l := by
 cases vs with
 | nil => exact h.elim
 | cons v vs => exact ⟨v, vs, rfl, h.1, h.2⟩
section
variable {e : En} {H : Hp} {nx : Nat} {σ : Nat → Value} {w : World}
theorem kx_all : ∀ b, (kx e H nx σ w).S b → (kAll w).S b ∧ (kAll w).w.heap[b]? = (kx e H nx σ w).w.heap[b]? := fun b hb => ⟨kAll_S hb.2.1, rfl⟩
theorem own_readT (hW : RW e H nx σ w) {v : Value} {nm s n sz : Nat} {B : Blk} (hd : den (kx e H nx σ w) v (.own nm s n sz)) (hB : H nm = some B) (hs : B.st = s) (hsz : B.sz ≠ 0) {cs' : List C}
  (hc : ∀ xs, denVs (kx e H nx σ w) xs B.cs → denVs (kAll w) xs cs') : den (kAll w) v (.sh sz n cs') := own_read hW hB hsz hs hd hc
end

end Go.Proofs.YtokmkopihhnggaaGreatDoor
