/- Clean copies of groups: plain. No walk. -/
import Derived.Test.YtcgpghifhehlhaaGreatDoorRw5M
set_option linter.unusedVariables false
set_option linter.unusedSimpArgs false
namespace Go.Proofs.YtcgpghifhehlhaaGreatDoor
open Go Go.RowKit
noncomputable def clR (r:GRat):GRat:=enc (qOf r)
noncomputable def clC (c:GClaim):GClaim:=⟨c.holder,c.rank,clR c.amount⟩
noncomputable def clP (p:GPart):GPart:=⟨p.claim,p.capped,clR p.cap⟩
noncomputable def clT (t:List GPart):List GPart:=t.map clP
noncomputable def clA (a:cw):cw:=a.map clT
noncomputable def clE (e:GEst):GEst:=⟨clR e.cash,e.claims.map clC,e.agrs.map clA⟩
noncomputable def clD (d:GDebt):GDebt:=⟨clR d.whole,d.legs⟩
theorem KQ {Pr:GEst->Prop} {es:List GEst} (h:∀e∈es,Pr e) (j:Nat) (x:GEst) (hx:j<es.length->Pr x):∀e∈es.set j x,Pr e:=fun e he=>by
 obtain ⟨i,hi,rfl⟩:=List.getElem_of_mem he;rw [List.getElem_set];split
 ·rename_i hji;subst hji;exact hx (by simpa using hi)
 exact h _ (List.getElem_mem _)
end Go.Proofs.YtcgpghifhehlhaaGreatDoor
