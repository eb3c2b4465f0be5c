/- Few: what is short enough for a law; walked by the abstract machine. -/
import Derived.Test.YtogeijhepjcbgaaGreatDoorLawM
import Derived.Test.YtogeijhepjcbgaaGreatDoorRw6M
import Derived.Test.YtogeijhepjcbgaaGreatDoorPl2M
set_option linter.unusedVariables false
set_option linter.unusedSimpArgs false
set_option linter.defProp false
set_option linter.unnecessarySimpa false
/- Few: what is short enough for a law; walked by the abstract machine. -/
namespace Go.Proofs.YtogeijhepjcbgaaGreatDoor
open Go Go.RowKit
theorem grpOK2_ok {g : GGrp} (h : grpOK2 g) : grpOK g := ⟨fun e he => (h.1 e he).1, h.2.1⟩
end Go.Proofs.YtogeijhepjcbgaaGreatDoor
