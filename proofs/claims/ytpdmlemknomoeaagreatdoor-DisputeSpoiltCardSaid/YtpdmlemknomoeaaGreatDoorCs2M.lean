/- Classes: Form on both sides; lists that are equal compared; walked by the abstract machine. -/
import Derived.Test.YtpdmlemknomoeaaGreatDoorAr1M
import Derived.Test.YtpdmlemknomoeaaGreatDoorAbYM
set_option linter.unusedVariables false
set_option linter.unusedSimpArgs false
set_option linter.defProp false
set_option linter.unnecessarySimpa false
/- Classes: Form on both sides; lists that are equal compared; walked by the abstract machine. -/
namespace Go.Proofs.YtpdmlemknomoeaaGreatDoor
open Go Go.RowKit
end Go.Proofs.YtpdmlemknomoeaaGreatDoor
