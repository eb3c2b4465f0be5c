/- The builder of groups: law0.Group; walked by the abstract machine. -/
import Derived.Test.YtogeijhepjcbgaaGreatDoorBl4M
set_option linter.unusedVariables false
set_option linter.unusedSimpArgs false
set_option linter.defProp false
set_option linter.unnecessarySimpa false
/- The builder of groups: law0.Group; walked by the abstract machine. -/
namespace Go.Proofs.YtogeijhepjcbgaaGreatDoor
open Go Go.RowKit
theorem tmodN (n m : Nat) : ((n : Nat) : Int).tmod (m : Int) = ((n % m : Nat) : Int) := by norm_cast
def F_lGrp := And.intro zS (And.intro tf31 (And.intro tf59 (And.intro tf60 (And.intro tf61 (And.intro tf49 (And.intro tf62 (And.intro tf63 (And.intro tf64 (And.intro tf4 (And.intro tf32 (And.intro tf19 (And.intro tf50 (And.intro tf65 (And.intro tf66 (And.intro tf33 (And.intro tf7 (And.intro tf52 (And.intro tf22 (And.intro tf67 (And.intro tf68 (And.intro tf10 (And.intro tf36 (And.intro tf25 (And.intro tf53 (And.intro tf37 (And.intro tf55 (And.intro tf38 (And.intro tf40 (And.intro tf41 (And.intro tf69 (And.intro tf70 (And.intro tf71 (And.intro tf72 (And.intro tf44 (And.intro tf45 (And.intro tf73 (And.intro tf74 (And.intro tf75 (And.intro tf58 (And.intro tf76 (tf77)))))))))))))))))))))))))))))))))))))))))
end Go.Proofs.YtogeijhepjcbgaaGreatDoor
