/- The builder's debts, estates and claims rows of the caller's own; walked by the abstract machine. -/
import Derived.Test.YtinaeglgfomlaaaGreatDoorSplM
set_option linter.unusedVariables false
set_option linter.unusedSimpArgs false
set_option linter.defProp false
set_option linter.unnecessarySimpa false
/- The builder's debts, estates and claims rows of the caller's own; walked by the abstract machine. -/
namespace Go.Proofs.YtinaeglgfomlaaaGreatDoor
open Go Go.RowKit
end Go.Proofs.YtinaeglgfomlaaaGreatDoor
