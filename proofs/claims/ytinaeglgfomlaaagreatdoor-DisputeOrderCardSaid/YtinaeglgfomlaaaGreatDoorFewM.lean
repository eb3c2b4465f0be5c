/- Few: what is short enough for a law; walked by the abstract machine. -/
import Derived.Test.YtinaeglgfomlaaaGreatDoorLawM
import Derived.Test.YtinaeglgfomlaaaGreatDoorRw6M
set_option linter.unusedVariables false
set_option linter.unusedSimpArgs false
set_option linter.defProp false
set_option linter.unnecessarySimpa false
/- Few: what is short enough for a law; walked by the abstract machine. -/
namespace Go.Proofs.YtinaeglgfomlaaaGreatDoor
open Go Go.RowKit
end Go.Proofs.YtinaeglgfomlaaaGreatDoor
