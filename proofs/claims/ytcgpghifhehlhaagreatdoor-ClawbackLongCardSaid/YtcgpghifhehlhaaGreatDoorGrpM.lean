/- Groups of estates as plain data; their readings; the builder of the laws as a plain function. No program in sight. -/
import Derived.Test.YtcgpghifhehlhaaGreatDoorJfM
import Derived.Test.YtcgpghifhehlhaaGreatDoorRef11M
set_option linter.unusedVariables false
set_option linter.unusedSimpArgs false
namespace Go.Proofs.YtcgpghifhehlhaaGreatDoor
open Go.RowKit
structure GClaim where
 holder:Int
 rank:Int
 amount:GRat
deriving Inhabited
structure GPart where
 claim:Int
 capped:Bool
 cap:GRat
deriving Inhabited
abbrev cw:=List (List GPart)
structure GEst where
 cash:GRat
 claims:List GClaim
 agrs:List cw
deriving Inhabited
structure GDebt where
 whole:GRat
 legs:List (Int×Int)
deriving Inhabited
structure GGrp where
 ests:List GEst
 debts:List GDebt
deriving Inhabited
def bM:GEst:=⟨gZ,[],[]⟩
structure N4 where
 a:Nat
 b:Nat
 c:Nat
 d:Nat
deriving Inhabited
structure N3 where
 a:Nat
 b:Nat
 c:Nat
deriving Inhabited
end Go.Proofs.YtcgpghifhehlhaaGreatDoor
