/- The builder's agreements; walked by the abstract machine. -/
import Derived.Test.YtmbahnmhicdjfaaGreatDoorWp6M
import Derived.Test.YtmbahnmhicdjfaaGreatDoorAbTM
import Derived.Test.YtmbahnmhicdjfaaGreatDoorGu1M
set_option linter.unusedVariables false
set_option linter.unusedSimpArgs false
set_option linter.defProp false
set_option linter.unnecessarySimpa false
/- The builder's agreements; walked by the abstract machine. -/
namespace Go.Proofs.YtmbahnmhicdjfaaGreatDoor
open Go Go.RowKit
structure T3 where
  a : List GPart
  b : List GPart
  c : List GPart
def T3.put (T : T3) (x : Nat) (p : GPart) : T3 := if x = 1 then ⟨T.a ++ [p], T.b, T.c⟩ else if x = 2 then ⟨T.a, T.b ++ [p], T.c⟩ else ⟨T.a, T.b, T.c ++ [p]⟩
end Go.Proofs.YtmbahnmhicdjfaaGreatDoor
