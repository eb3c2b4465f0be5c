/- The builder of groups, what it builds the caller's own; walked by the abstract machine. -/
import Derived.Test.YtinaeglgfomlaaaGreatDoorOw2M
set_option linter.unusedVariables false
set_option linter.unusedSimpArgs false
set_option linter.defProp false
set_option linter.unnecessarySimpa false
/- The builder of groups, what it builds the caller's own; walked by the abstract machine. -/
namespace Go.Proofs.YtinaeglgfomlaaaGreatDoor
open Go Go.RowKit
end Go.Proofs.YtinaeglgfomlaaaGreatDoor
