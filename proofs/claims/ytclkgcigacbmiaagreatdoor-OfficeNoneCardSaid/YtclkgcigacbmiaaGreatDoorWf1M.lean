/- slices.ContainsFunc at tiers, with the closure of waterfall.checkAgreement; walked by the abstract machine. -/
import Derived.Test.YtclkgcigacbmiaaGreatDoorAbGM
import Derived.Shelf.Sort.Plain
import Derived.Shelf.Slices.CompactI
import Derived.Shelf.Slices.In.SortNone
import Derived.Test.YtclkgcigacbmiaaGreatDoorProg
import Derived.Sort.OwnSortedInts
import Derived.Lib.RowBridge
set_option linter.unusedVariables false
set_option linter.unusedSimpArgs false
namespace Go.Proofs.YtclkgcigacbmiaaGreatDoor
open Go Go.RowKit


end Go.Proofs.YtclkgcigacbmiaaGreatDoor
section
/- Contracts of the kit's shelf, laid at this translation by the kit's own tool: slices.Sort and slices.Compact at []int. -/
namespace Go.Proofs
open Go.Shelf
end Go.Proofs
end
namespace Go.Proofs.YtclkgcigacbmiaaGreatDoor
open Go Go.RowKit


instance:Inhabited GClaim:=⟨⟨0,0,⟨false,aD,aD⟩⟩⟩

end Go.Proofs.YtclkgcigacbmiaaGreatDoor
