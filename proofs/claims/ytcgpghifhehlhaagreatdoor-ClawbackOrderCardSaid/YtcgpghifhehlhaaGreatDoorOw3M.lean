/- The builder of groups, what it builds the caller's own; walked by the abstract machine. -/
import Derived.Test.YtcgpghifhehlhaaGreatDoorBl5M
import Derived.Test.YtcgpghifhehlhaaGreatDoorFewM
import Derived.Test.YtcgpghifhehlhaaGreatDoorAbTM
import Derived.Test.YtcgpghifhehlhaaGreatDoorAbBM
set_option linter.unusedVariables false
set_option linter.unusedSimpArgs false
namespace Go.Proofs.YtcgpghifhehlhaaGreatDoor
open Go Go.RowKit


structure GCls where
 est:Int
 rank:Int
 small:Bool
 claims:List Int


end Go.Proofs.YtcgpghifhehlhaaGreatDoor
