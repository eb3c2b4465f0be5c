/- Classes: eligible, form, on both sides; walked by the abstract machine. -/
import Derived.Test.YtokmkopihhnggaaGreatDoorFewM
import Derived.Test.YtokmkopihhnggaaGreatDoorAbTM
import Derived.Test.YtokmkopihhnggaaGreatDoorAbBM
set_option linter.unusedVariables false
set_option linter.unusedSimpArgs false
namespace Go.Proofs.YtokmkopihhnggaaGreatDoor
open Go Go.RowKit
structure GCls where
 est:Int
 rank:Int
 small:Bool
 claims:List Int


end Go.Proofs.YtokmkopihhnggaaGreatDoor
