/- The builder of groups: law0.Group; walked by the abstract machine. -/
import Derived.Test.YtokmkopihhnggaaGreatDoorBl3M
set_option linter.unusedVariables false
set_option linter.unusedSimpArgs false
set_option linter.defProp false
set_option linter.unnecessarySimpa false
/- The builder of groups: law0.Group; walked by the abstract machine. -/
namespace Go.Proofs.YtokmkopihhnggaaGreatDoor
open Go Go.RowKit
theorem tmodN (n m : Nat) : ((n : Nat) : Int).tmod (m : Int) = ((n % m : Nat) : Int) := by norm_cast
end Go.Proofs.YtokmkopihhnggaaGreatDoor
