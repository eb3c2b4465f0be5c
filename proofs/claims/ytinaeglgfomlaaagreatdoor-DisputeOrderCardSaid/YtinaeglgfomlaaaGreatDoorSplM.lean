/- Cells of a row put, read and said in other words; parts of a row of records. No program in sight. -/
import Derived.Test.YtinaeglgfomlaaaGreatDoorAbBM
import Derived.Test.YtinaeglgfomlaaaGreatDoorAbGM
import Derived.Test.YtinaeglgfomlaaaGreatDoorBl6M
set_option linter.unusedVariables false
set_option linter.unusedSimpArgs false
set_option linter.defProp false
set_option linter.unnecessarySimpa false
set_option linter.unusedSectionVars false
section
/- Cells of a row put, read and said in other words; parts of a row of records. No program in sight. -/
namespace Go.Proofs.YtinaeglgfomlaaaGreatDoor
open Go Go.RowKit
theorem spl_len1 (cs : List C) (off : Nat) (c : C) (h : off < cs.length) : (spl cs off [c]).length = cs.length := by rw [spl_one cs off c h, List.length_set]
end Go.Proofs.YtinaeglgfomlaaaGreatDoor
end
section
/- A group whose estates and claims are rows of the caller's own: read by a call that returns plain numbers; boxes that are read from here on. No program in sight. -/
namespace Go.Proofs.YtinaeglgfomlaaaGreatDoor
open Go Go.RowKit
section
variable {e : En} {H : Hp} {nx : Nat} {σ : Nat → Value} {w : World}
end
theorem eRw_same (f : Nat → GEst × Nat → C) (l : List (GEst × Nat)) (j : Nat) (p p' : GEst × Nat) (h : l[j]? = some p) (hc : p'.1.cash = p.1.cash) (ha : p'.1.agrs = p.1.agrs) (hf : f j p' = f j p) : eRw f (l.set j p') 0 = eRw f l 0 := by
  have h1 := eRw_set3 f f l j p p' h hc ha (fun _ _ _ _ => rfl)
  rw [hf] at h1
  obtain ⟨h4, h5⟩ := List.getElem?_eq_some_iff.1 (eRw_get3 f l j p h)
  rw [← h1, ← h5]; exact List.set_getElem_self h4
end Go.Proofs.YtinaeglgfomlaaaGreatDoor
end
section
/- The builder's agreements, the estate's claims a row of the caller's own; walked by the abstract machine. -/
namespace Go.Proofs.YtinaeglgfomlaaaGreatDoor
open Go Go.RowKit
end Go.Proofs.YtinaeglgfomlaaaGreatDoor
end
