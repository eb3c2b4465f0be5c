/- guarantee.holder, guarantee.checkDebt walked by the abstract machine. -/
import Derived.Test.YtokmkopihhnggaaGreatDoorAbGM
set_option linter.unusedVariables false
set_option linter.unusedSimpArgs false
namespace Go.Proofs.YtokmkopihhnggaaGreatDoor
open Go Go.RowKit
instance : Inhabited GClaim := ⟨⟨0, 0, ⟨false, bEmpty, bEmpty⟩⟩⟩
theorem flat_get {α : Type} {f : α → List C} {sz : Nat} (hf : ∀ a, (f a).length = sz) (l : List α) (i : Int) (d : α) (h0 : 0 ≤ i) (h : i < l.length) : (flat f l).drop (i.toNat * sz) = f (l.getD i.toNat d) ++ flat f (l.drop (i.toNat + 1)) := by
 have hk : i.toNat < l.length := by omega
 rw [flat_at hf l i.toNat hk]
 congr 2
 simp [List.getD, hk]
end Go.Proofs.YtokmkopihhnggaaGreatDoor
