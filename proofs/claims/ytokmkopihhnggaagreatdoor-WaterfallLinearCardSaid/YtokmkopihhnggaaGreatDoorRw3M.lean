/- The reference: CheckEstate; walked by the abstract machine. -/
import Derived.Test.YtokmkopihhnggaaGreatDoorRw2M
set_option linter.unusedVariables false
set_option linter.unusedSimpArgs false
namespace Go.Proofs.YtokmkopihhnggaaGreatDoor
open Go Go.RowKit
noncomputable def ceAgrs (g : GEst) (i : Nat) : List GAgr → Int
 | [] => 0
 | a :: l => if agS g.claims.length (fun c => mbE c (g.agrs.take i)) a ≠ 0 then agS g.claims.length (fun c => mbE c (g.agrs.take i)) a else ceAgrs g (i + 1) l
noncomputable def ceSpec (e : GEst) : Int := if 24 < e.claims.length ∨ 12 < e.agrs.length then 2 else if qSgn (qOf e.cash) < 0 then 7 else if wcClaims e.claims ≠ 0 then wcClaims e.claims
 else ceAgrs e 0 e.agrs

end Go.Proofs.YtokmkopihhnggaaGreatDoor
