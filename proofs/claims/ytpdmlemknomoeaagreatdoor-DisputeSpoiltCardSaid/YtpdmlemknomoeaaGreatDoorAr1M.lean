/- The arithmetic of both sides as contracts on plain data. -/
import Derived.Test.YtpdmlemknomoeaaGreatDoorRw6M
import Derived.Test.YtpdmlemknomoeaaGreatDoorVal2M
import Derived.Test.YtpdmlemknomoeaaGreatDoorNat18M
import Derived.Test.YtpdmlemknomoeaaGreatDoorAbTM
set_option linter.unusedVariables false
set_option linter.unusedSimpArgs false
set_option linter.defProp false
set_option linter.unnecessarySimpa false
section
/- The arithmetic of both sides as contracts on plain data. -/
namespace Go.Proofs.YtpdmlemknomoeaaGreatDoor
open Go Go.RowKit
end Go.Proofs.YtpdmlemknomoeaaGreatDoor
end
section
/- Classes: eligible, form, on both sides; walked by the abstract machine. -/
namespace Go.Proofs.YtpdmlemknomoeaaGreatDoor
open Go Go.RowKit
structure GCls where
  est : Int
  rank : Int
  small : Bool
  claims : List Int
end Go.Proofs.YtpdmlemknomoeaaGreatDoor
end
section
/- Classes in plain terms: what Form, Check and Sum answer; both checks agree. No walk. -/
namespace Go.Proofs.YtpdmlemknomoeaaGreatDoor
open Go Go.RowKit
end Go.Proofs.YtpdmlemknomoeaaGreatDoor
end
