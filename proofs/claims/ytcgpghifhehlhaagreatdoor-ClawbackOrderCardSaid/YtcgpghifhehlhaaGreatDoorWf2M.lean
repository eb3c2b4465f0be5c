/- slices.Grow and slices.Concat at parts; walked by the abstract machine. -/
import Derived.Test.YtcgpghifhehlhaaGreatDoorGu1M
import Derived.Shelf.Sort.Plain
import Derived.Shelf.Slices.CompactI
import Derived.Shelf.Slices.In.SortNone
import Derived.Test.YtcgpghifhehlhaaGreatDoorProg
import Derived.Test.YtcgpghifhehlhaaGreatDoorAbGM
import Derived.Sort.OwnSortedInts
import Derived.Lib.RowBridge
set_option linter.unusedVariables false
set_option linter.unusedSimpArgs false
namespace Go.Proofs.YtcgpghifhehlhaaGreatDoor
open Go Go.RowKit

end Go.Proofs.YtcgpghifhehlhaaGreatDoor
section
/- Contracts of the kit's shelf, laid at this translation by the kit's own tool: slices.Sort and slices.Compact at []int. -/
namespace Go.Proofs
open Go.Shelf
end Go.Proofs
end
namespace Go.Proofs.YtcgpghifhehlhaaGreatDoor
open Go Go.RowKit
def Gb (zs:List Int):List Int:=zs.mergeSort fun x y=>decide (x<=y)
def dI:List GPart->List Int
 |[]=>[]
 |p::l=>if p.claim= -1 then dI l else p.claim::dI l
def mem (a:cw):List Int:=Lib.compact (Gb (dI a.flatten))
instance:Inhabited GClaim:=⟨⟨0,0,⟨false,cc,cc⟩⟩⟩

end Go.Proofs.YtcgpghifhehlhaaGreatDoor
