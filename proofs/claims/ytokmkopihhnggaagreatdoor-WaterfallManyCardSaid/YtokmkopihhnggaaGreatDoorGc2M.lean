/- guarantee.Check; walked by the abstract machine. -/
import Derived.Test.YtokmkopihhnggaaGreatDoorWf6M
set_option linter.unusedVariables false
set_option linter.unusedSimpArgs false
set_option linter.defProp false
set_option linter.unnecessarySimpa false
section
/- guarantee.Check; walked by the abstract machine. -/
namespace Go.Proofs.YtokmkopihhnggaaGreatDoor
open Go Go.RowKit
end Go.Proofs.YtokmkopihhnggaaGreatDoor
end
section
/- The reference: member, earlier; walked by the abstract machine. -/
namespace Go.Proofs.YtokmkopihhnggaaGreatDoor
open Go Go.RowKit
def mbT (c : Int) : List GPart → Bool
  | [] => false
  | p :: l => decide (p.claim = c) || mbT c l
def mbA (c : Int) : GAgr → Bool
  | [] => false
  | t :: a => mbT c t || mbA c a
end Go.Proofs.YtokmkopihhnggaaGreatDoor
end
