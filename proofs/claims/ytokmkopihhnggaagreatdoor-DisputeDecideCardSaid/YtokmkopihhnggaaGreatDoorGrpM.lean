/- Groups of estates as plain data; their readings; the builder of the laws as a plain function. No program in sight. -/
import Derived.Test.YtokmkopihhnggaaGreatDoorJfM
import Derived.Test.YtokmkopihhnggaaGreatDoorRef10M
set_option linter.unusedVariables false
set_option linter.unusedSimpArgs false
namespace Go.Proofs.YtokmkopihhnggaaGreatDoor
open Go.RowKit
structure GClaim where
 holder:Int
 rank:Int
 amount:GRat
deriving Inhabited
structure GPart where
 claim:Int
 capped:Bool
 cap:GRat
deriving Inhabited
abbrev bR:=List (List GPart)
structure GEst where
 cash:GRat
 claims:List GClaim
 agrs:List bR
deriving Inhabited
structure GDebt where
 whole:GRat
 legs:List (Int×Int)
deriving Inhabited
structure GGrp where
 ests:List GEst
 debts:List GDebt
deriving Inhabited
noncomputable def Jd (x:Nat):GRat:=enc (kG x)
def gr:GEst:=⟨gZ,[],[]⟩
noncomputable def kY (cash:List Nat) (i:Nat):GEst:=⟨if i<cash.length then Jd (cash.getD i 0) else gZ,[],[]⟩
def sk (size i c1:Nat):Int:=if c1%(size+1)=i∨size<=c1%(size+1) then -1 else ((c1%(size+1):Nat):Int)
structure N4 where
 a:Nat
 b:Nat
 c:Nat
 d:Nat
deriving Inhabited
structure N3 where
 a:Nat
 b:Nat
 c:Nat
deriving Inhabited
noncomputable def cQ (size:Nat) (x:N4):GClaim:=⟨sk size (x.a%size) x.b,((x.c%3:Nat):Int),Jd x.d⟩
noncomputable def gn (size:Nat) (es:List GEst) (x:N4):List GEst:=
 if 6<=(es.getD (x.a%size) gr).claims.length then es
 else es.set (x.a%size) {es.getD (x.a%size) gr with claims:=(es.getD (x.a%size) gr).claims++[cQ size x]}
end Go.Proofs.YtokmkopihhnggaaGreatDoor
