/- The builder's debts; walked by the abstract machine. -/
import Derived.Test.YtogeijhepjcbgaaGreatDoorBl2M
set_option linter.unusedVariables false
set_option linter.unusedSimpArgs false
set_option linter.defProp false
set_option linter.unnecessarySimpa false
/- The builder's debts; walked by the abstract machine. -/
namespace Go.Proofs.YtogeijhepjcbgaaGreatDoor
open Go Go.RowKit
structure OS where
  k : Nat
  h : Int
  l : List Leg
end Go.Proofs.YtogeijhepjcbgaaGreatDoor
