/- guarantee.Check; walked by the abstract machine. -/
import Derived.Test.YtmbahnmhicdjfaaGreatDoorWf6M
set_option linter.unusedVariables false
set_option linter.unusedSimpArgs false
set_option linter.defProp false
set_option linter.unnecessarySimpa false
section
/- guarantee.Check; walked by the abstract machine. -/
namespace Go.Proofs.YtmbahnmhicdjfaaGreatDoor
open Go Go.RowKit
end Go.Proofs.YtmbahnmhicdjfaaGreatDoor
end
section
/- The reference: member, earlier; walked by the abstract machine. -/
namespace Go.Proofs.YtmbahnmhicdjfaaGreatDoor
open Go Go.RowKit
def mbT (c : Int) : List GPart → Bool
  | [] => false
  | p :: l => decide (p.claim = c) || mbT c l
def mbA (c : Int) : GAgr → Bool
  | [] => false
  | t :: a => mbT c t || mbA c a
def mbE (c : Int) : List GAgr → Bool
  | [] => false
  | a :: l => mbA c a || mbE c l
end Go.Proofs.YtmbahnmhicdjfaaGreatDoor
end
