/- Cells of a row put, read and said in other words; parts of a row of records. No program in sight. -/
import Derived.Test.YtpdmlemknomoeaaGreatDoorAbYM
import Derived.Test.YtpdmlemknomoeaaGreatDoorBl6M
set_option linter.unusedVariables false
set_option linter.unusedSimpArgs false
set_option linter.defProp false
set_option linter.unnecessarySimpa false
set_option linter.unusedSectionVars false
section
/- Cells of a row put, read and said in other words; parts of a row of records. No program in sight. -/
namespace Go.Proofs.YtpdmlemknomoeaaGreatDoor
open Go Go.RowKit
theorem spl_len1 (cs : List C) (off : Nat) (c : C) (h : off < cs.length) : (spl cs off [c]).length = cs.length := by rw [spl_one cs off c h, List.length_set]
theorem denVs_set {κ : Kx} : ∀ {vs : List Value} {cs : List C} (off : Nat) {c d : C}, cs[off]? = some c → (∀ v, den κ v c → den κ v d) → denVs κ vs cs → denVs κ vs (cs.set off d)
  | [], [], _, _, _, h, _, _ => by simp at h
  | _ :: _, _ :: _, 0, c, d, h, hc, hd => by
    simp only [List.getElem?_cons_zero, Option.some.injEq] at h
    subst h
    exact ⟨hc _ hd.1, hd.2⟩
  | _ :: _, _ :: _, off + 1, c, d, h, hc, hd => ⟨hd.1, denVs_set off (by simpa using h) hc hd.2⟩
  | [], _ :: _, _, _, _, _, _, h => h.elim
  | _ :: _, [], _, _, _, _, _, h => h.elim
end Go.Proofs.YtpdmlemknomoeaaGreatDoor
end
section
/- A group whose estates and claims are rows of the caller's own: read by a call that returns plain numbers; boxes that are read from here on. No program in sight. -/
namespace Go.Proofs.YtpdmlemknomoeaaGreatDoor
open Go Go.RowKit
section
variable {e : En} {H : Hp} {nx : Nat} {σ : Nat → Value} {w : World}
end
end Go.Proofs.YtpdmlemknomoeaaGreatDoor
end
section
/- The builder's agreements, the estate's claims a row of the caller's own; walked by the abstract machine. -/
namespace Go.Proofs.YtpdmlemknomoeaaGreatDoor
open Go Go.RowKit
end Go.Proofs.YtpdmlemknomoeaaGreatDoor
end
