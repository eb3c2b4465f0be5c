/- The builder of groups: law0.Group; walked by the abstract machine. -/
import Derived.Test.YtogeijhepjcbgaaGreatDoorBl4M
set_option linter.unusedVariables false
set_option linter.unusedSimpArgs false
set_option linter.defProp false
set_option linter.unnecessarySimpa false
/- The builder of groups: law0.Group; walked by the abstract machine. -/
namespace Go.Proofs.YtogeijhepjcbgaaGreatDoor
open Go Go.RowKit
end Go.Proofs.YtogeijhepjcbgaaGreatDoor
