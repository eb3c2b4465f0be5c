/- Plain: an estate laid out: ranks, pools; what is delivered; the sizes of the numbers. No walk. -/
import Derived.Test.YtclkgcigacbmiaaGreatDoorWf6M
set_option linter.unusedVariables false
set_option linter.unusedSimpArgs false
namespace Go.Proofs.YtclkgcigacbmiaaGreatDoor
open Go Go.RowKit
abbrev yC:=List Int×List WT
structure WL where
 count:Nat
 ranks:List WT
 pools:List yC
 total:Rat

end Go.Proofs.YtclkgcigacbmiaaGreatDoor
