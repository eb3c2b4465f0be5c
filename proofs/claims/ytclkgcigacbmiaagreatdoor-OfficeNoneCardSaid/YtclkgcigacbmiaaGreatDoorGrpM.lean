/- Groups of estates as plain data; their readings; the builder of the laws as a plain function. No program in sight. -/
import Derived.Test.YtclkgcigacbmiaaGreatDoorBaseM
import Derived.Test.YtclkgcigacbmiaaGreatDoorRef10M
set_option linter.unusedVariables false
set_option linter.unusedSimpArgs false
namespace Go.Proofs.YtclkgcigacbmiaaGreatDoor
open Go.RowKit
structure GClaim where
 holder:Int
 rank:Int
 amount:GRat
deriving Inhabited
structure GPart where
 claim:Int
 capped:Bool
 cap:GRat
deriving Inhabited
abbrev zX:=List (List GPart)
structure GEst where
 cash:GRat
 claims:List GClaim
 agrs:List zX
deriving Inhabited
structure GDebt where
 whole:GRat
 legs:List (Int×Int)
deriving Inhabited
structure GGrp where
 ests:List GEst
 debts:List GDebt
deriving Inhabited
noncomputable def zY (x:Nat):GRat:=enc (dH x)
def r8:GEst:=⟨gZ,[],[]⟩
def r9 (size i c1:Nat):Int:=if c1%(size+1)=i∨size<=c1%(size+1) then -1 else ((c1%(size+1):Nat):Int)
structure N4 where
 a:Nat
 b:Nat
 c:Nat
 d:Nat
deriving Inhabited
structure N3 where
 a:Nat
 b:Nat
 c:Nat
deriving Inhabited
noncomputable def tQ (size:Nat) (x:N4):GClaim:=⟨r9 size (x.a%size) x.b,((x.c%3:Nat):Int),zY x.d⟩
noncomputable def yB (size:Nat) (es:List GEst) (x:N4):List GEst:=
 if 6<=(es.getD (x.a%size) r8).claims.length then es
 else es.set (x.a%size) {es.getD (x.a%size) r8 with claims:=(es.getD (x.a%size) r8).claims++[tQ size x]}
end Go.Proofs.YtclkgcigacbmiaaGreatDoor
