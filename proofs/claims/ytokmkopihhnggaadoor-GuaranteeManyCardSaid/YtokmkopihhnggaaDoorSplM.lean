/- Cells of a row put, read and said in other words; parts of a row of records. No program in sight. -/
import Derived.Test.YtokmkopihhnggaaDoorBl3M
import Derived.Test.YtokmkopihhnggaaDoorAbTM
set_option linter.unusedVariables false
set_option linter.unusedSimpArgs false
set_option linter.defProp false
set_option linter.unnecessarySimpa false
/- Cells of a row put, read and said in other words; parts of a row of records. No program in sight. -/
namespace Go.Proofs.YtokmkopihhnggaaDoor
open Go Go.RowKit
theorem denVs_set {κ : Kx} : ∀ {vs : List Value} {cs : List C} (off : Nat) {c d : C}, cs[off]? = some c → (∀ v, den κ v c → den κ v d) → denVs κ vs cs → denVs κ vs (cs.set off d)
  | [], [], _, _, _, h, _, _ => by simp at h
  | _ :: _, _ :: _, 0, c, d, h, hc, hd => by
    simp only [List.getElem?_cons_zero, Option.some.injEq] at h
    subst h
    exact ⟨hc _ hd.1, hd.2⟩
  | _ :: _, _ :: _, off + 1, c, d, h, hc, hd => ⟨hd.1, denVs_set off (by simpa using h) hc hd.2⟩
  | [], _ :: _, _, _, _, _, _, h => h.elim
  | _ :: _, [], _, _, _, _, _, h => h.elim
end Go.Proofs.YtokmkopihhnggaaDoor
