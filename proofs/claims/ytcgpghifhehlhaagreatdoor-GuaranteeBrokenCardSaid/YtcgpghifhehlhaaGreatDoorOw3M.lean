/- The builder of groups, what it builds the caller's own; walked by the abstract machine. -/
import Derived.Test.YtcgpghifhehlhaaGreatDoorSplM
set_option linter.unusedVariables false
set_option linter.unusedSimpArgs false
namespace Go.Proofs.YtcgpghifhehlhaaGreatDoor
open Go Go.RowKit
theorem iF {E:TypeId} {ps:List (GEst×Nat)} {x:Nat} {B:Blk} (h:tbl 103 E ps x=some B):x<500∨x%1000=103:=by
 obtain ⟨i,r,rfl,_,_⟩:=bD h;right;omega
end Go.Proofs.YtcgpghifhehlhaaGreatDoor
