/- Classes: Sum on both sides; numbers compared; walked by the abstract machine. -/
import Derived.Test.YtogeijhepjcbgaaGreatDoorCs2M
import Derived.Test.YtogeijhepjcbgaaGreatDoorPl3M
set_option linter.unusedVariables false
set_option linter.unusedSimpArgs false
set_option linter.defProp false
set_option linter.unnecessarySimpa false
/- Classes: Sum on both sides; numbers compared; walked by the abstract machine. -/
namespace Go.Proofs.YtogeijhepjcbgaaGreatDoor
open Go Go.RowKit
end Go.Proofs.YtogeijhepjcbgaaGreatDoor
