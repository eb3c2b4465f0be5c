/- Groups of estates as plain data; their readings; the builder of the laws as a plain function. No program in sight. -/
import Derived.Test.YtcgpghifhehlhaaGreatDoorJfM
import Derived.Test.YtcgpghifhehlhaaGreatDoorRef11M
set_option linter.unusedVariables false
set_option linter.unusedSimpArgs false
namespace Go.Proofs.YtcgpghifhehlhaaGreatDoor
open Go.RowKit
structure GClaim where
 holder:Int
 rank:Int
 amount:GRat
deriving Inhabited
structure GPart where
 claim:Int
 capped:Bool
 cap:GRat
deriving Inhabited
abbrev cw:=List (List GPart)
structure GEst where
 cash:GRat
 claims:List GClaim
 agrs:List cw
deriving Inhabited
structure GDebt where
 whole:GRat
 legs:List (Int×Int)
deriving Inhabited
structure GGrp where
 ests:List GEst
 debts:List GDebt
deriving Inhabited
noncomputable def i7 (x:Nat):GRat:=enc (cY x)
def bM:GEst:=⟨gZ,[],[]⟩
noncomputable def cZ (cash:List Nat) (i:Nat):GEst:=⟨if i<cash.length then i7 (cash.getD i 0) else gZ,[],[]⟩
def dF (size i c1:Nat):Int:=if c1%(size+1)=i∨size<=c1%(size+1) then -1 else ((c1%(size+1):Nat):Int)
structure N4 where
 a:Nat
 b:Nat
 c:Nat
 d:Nat
deriving Inhabited
structure N3 where
 a:Nat
 b:Nat
 c:Nat
deriving Inhabited
noncomputable def ap (size:Nat) (x:N4):GClaim:=⟨dF size (x.a%size) x.b,((x.c%3:Nat):Int),i7 x.d⟩
noncomputable def aJ (size:Nat) (es:List GEst) (x:N4):List GEst:=
 if 6<=(es.getD (x.a%size) bM).claims.length then es
 else es.set (x.a%size) {es.getD (x.a%size) bM with claims:=(es.getD (x.a%size) bM).claims++[ap size x]}
end Go.Proofs.YtcgpghifhehlhaaGreatDoor
