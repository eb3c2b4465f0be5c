/- Clean copies of groups: plain. No walk. -/
import Derived.Test.YtcgpghifhehlhaaGreatDoorRw5M
set_option linter.unusedVariables false
set_option linter.unusedSimpArgs false
namespace Go.Proofs.YtcgpghifhehlhaaGreatDoor
open Go Go.RowKit
noncomputable def clR (r:GRat):GRat:=enc (qOf r)
noncomputable def clC (c:GClaim):GClaim:=⟨c.holder,c.rank,clR c.amount⟩
noncomputable def clP (p:GPart):GPart:=⟨p.claim,p.capped,clR p.cap⟩
noncomputable def clT (t:List GPart):List GPart:=t.map clP
noncomputable def clA (a:cw):cw:=a.map clT
noncomputable def clE (e:GEst):GEst:=⟨clR e.cash,e.claims.map clC,e.agrs.map clA⟩
noncomputable def clD (d:GDebt):GDebt:=⟨clR d.whole,d.legs⟩
end Go.Proofs.YtcgpghifhehlhaaGreatDoor
