/- The reference: Sign, agreement; walked by the abstract machine. -/
import Derived.Test.YtokmkopihhnggaaGreatDoorWf6M
set_option linter.unusedVariables false
set_option linter.unusedSimpArgs false
namespace Go.Proofs.YtokmkopihhnggaaGreatDoor
open Go Go.RowKit
noncomputable def agT (n:Int) (E:Int->Bool):List GPart->Int
 |[]=>0
 |p::l=>if p.claim< -1∨n<=p.claim then 1 else if p.claim= -1/\p.capped=false then 21 else if p.capped=true/\cU (qOf p.cap)<0 then 7
  else if p.claim≠ -1/\E p.claim=true then 20 else agT n E l
noncomputable def agA (n:Int) (E:Int->Bool):bR->Int
 |[]=>0
 |t::a=>if agT n E t≠0 then agT n E t else agA n E a
noncomputable def agS (n:Int) (E:Int->Bool) (a:bR):Int:=if 24<a.length then 2 else if a.any eb=true then 2 else agA n E a
noncomputable def jB (g:GEst) (i:Nat):List bR->Int
 |[]=>0
 |a::l=>if agS g.claims.length (fun c=>mbE c (g.agrs.take i)) a≠0 then agS g.claims.length (fun c=>mbE c (g.agrs.take i)) a else jB g (i+1) l
noncomputable def tG (e:GEst):Int:=if 24<e.claims.length∨12<e.agrs.length then 2 else if cU (qOf e.cash)<0 then 7 else if bq e.claims≠0 then bq e.claims
 else jB e 0 e.agrs

end Go.Proofs.YtokmkopihhnggaaGreatDoor
