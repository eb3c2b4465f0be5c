/- The builder of groups, what it builds the caller's own; walked by the abstract machine. -/
import Derived.Test.YtokmkopihhnggaaGreatDoorBl5M
import Derived.Test.YtokmkopihhnggaaGreatDoorAr1M
import Derived.Test.YtokmkopihhnggaaGreatDoorAbTM
import Derived.Test.YtokmkopihhnggaaGreatDoorAbBM
set_option linter.unusedVariables false
set_option linter.unusedSimpArgs false
namespace Go.Proofs.YtokmkopihhnggaaGreatDoor
open Go Go.RowKit


structure GCls where
 est:Int
 rank:Int
 small:Bool
 claims:List Int


end Go.Proofs.YtokmkopihhnggaaGreatDoor
