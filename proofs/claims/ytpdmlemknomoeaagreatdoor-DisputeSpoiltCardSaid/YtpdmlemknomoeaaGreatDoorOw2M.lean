/- The builder's debts, estates and claims rows of the caller's own; walked by the abstract machine. -/
import Derived.Test.YtpdmlemknomoeaaGreatDoorSplM
set_option linter.unusedVariables false
set_option linter.unusedSimpArgs false
set_option linter.defProp false
set_option linter.unnecessarySimpa false
/- The builder's debts, estates and claims rows of the caller's own; walked by the abstract machine. -/
namespace Go.Proofs.YtpdmlemknomoeaaGreatDoor
open Go Go.RowKit
end Go.Proofs.YtpdmlemknomoeaaGreatDoor
