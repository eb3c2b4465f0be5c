/- guarantee.Check; walked by the abstract machine. -/
import Derived.Test.YtokmkopihhnggaaGreatDoorWf6M
set_option linter.unusedVariables false
set_option linter.unusedSimpArgs false
namespace Go.Proofs.YtokmkopihhnggaaGreatDoor
open Go Go.RowKit

def mbT (c : Int) : List GPart → Bool
 | [] => false
 | p :: l => decide (p.claim = c) || mbT c l
def mbA (c : Int) : GAgr → Bool
 | [] => false
 | t :: a => mbT c t || mbA c a
def mbE (c : Int) : List GAgr → Bool
 | [] => false
 | a :: l => mbA c a || mbE c l
end Go.Proofs.YtokmkopihhnggaaGreatDoor
