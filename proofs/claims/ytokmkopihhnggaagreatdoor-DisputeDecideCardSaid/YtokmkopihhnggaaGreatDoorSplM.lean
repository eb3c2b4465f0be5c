/- Cells of a row put, read and said in other words; parts of a row of records. No program in sight. -/
import Derived.Test.YtokmkopihhnggaaGreatDoorAbBM
import Derived.Test.YtokmkopihhnggaaGreatDoorAbGM
import Derived.Test.YtokmkopihhnggaaGreatDoorBl5M
set_option linter.unusedVariables false
set_option linter.unusedSimpArgs false
set_option linter.unusedSectionVars false
namespace Go.Proofs.YtokmkopihhnggaaGreatDoor
open Go Go.RowKit

section
variable {e : En} {H : Hp} {nx : Nat} {σ : Nat → Value} {w : World}
end
theorem Mv (f:Nat->GEst×Nat->C) (l:List (GEst×Nat)) (j:Nat) (p p':GEst×Nat) (h:l[j]? =some p) (hc:p'.1.cash=p.1.cash) (ha:p'.1.agrs=p.1.agrs) (hf:f j p'=f j p):eRw f (l.set j p') 0=eRw f l 0:=by
 have h1:=KR f f l j p p' h hc ha (fun _ _ _ _=>rfl);rw [hf] at h1;obtain ⟨h4,h5⟩:=List.getElem?_eq_some_iff.1 (Jn f l j p h);rw [←h1,←h5];exact List.set_getElem_self h4


end Go.Proofs.YtokmkopihhnggaaGreatDoor
