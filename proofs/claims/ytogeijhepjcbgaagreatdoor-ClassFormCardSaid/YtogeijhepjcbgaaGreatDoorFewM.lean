/- Few: what is short enough for a law; walked by the abstract machine. -/
import Derived.Test.YtogeijhepjcbgaaGreatDoorLawM
import Derived.Test.YtogeijhepjcbgaaGreatDoorRw6M
import Derived.Test.YtogeijhepjcbgaaGreatDoorPl2M
set_option linter.unusedVariables false
set_option linter.unusedSimpArgs false
set_option linter.defProp false
set_option linter.unnecessarySimpa false
/- Few: what is short enough for a law; walked by the abstract machine. -/
namespace Go.Proofs.YtogeijhepjcbgaaGreatDoor
open Go Go.RowKit
def fewR (r : GRat) : Bool := decide ((r.num.size : Int) ≤ 24) && decide ((r.den.size : Int) ≤ 24)
def F_lFew := And.intro zS (And.intro tf88 (And.intro tf89 (And.intro tf90 (tf91))))
set_option maxHeartbeats 4000000 in
theorem fewR_A (r : GRat) : ACall Tryz.prog 20 [.agg (cRat r)] (one (.bool (fewR r))) := by
 refine acall_of Tryz.func20 rfl (by decide) (N := 13) rfl (by simp) (R := [.tmp 2]) rfl fun en k0 => ?_
 refine awR [] [none, none] ?_
 simp only [(id F_lFew), seval, cRat]
 repeat refine ob ?_
 by_cases h1 : (r.num.size : Int) ≤ 24
 ·
  by_cases h2 : (r.den.size : Int) ≤ 24
  ·
   refine awR [] [none, none, none, none, none, some (7, true), some (7, true), some (7, true), some (7, true), none, none] ?_
   simp only [(id F_lFew), seval, cRat, h1, h2]
   repeat refine ob ?_
   refine awX ?_
   (first | (simp only [(id F_lFew), seval, cRat, fewR, h1, h2]; done) | (simp only [(id F_lFew), seval, cRat]; first | (simp [fewR, h1, h2]; done)))
  refine awR [] [none, none, none, none, none, some (7, true), some (7, true), some (7, true), some (7, true), none, none] ?_
  simp only [(id F_lFew), seval, cRat, h1, h2]
  repeat refine ob ?_
  refine awX ?_
  (first | (simp only [(id F_lFew), seval, cRat, fewR, h1, h2]; done) | (simp only [(id F_lFew), seval, cRat]; first | (simp [fewR, h1, h2]; done)))
 refine awR [] [none, none, none, none, none, some (7, true), some (7, true), some (7, true), some (7, true), none, none] ?_
 simp only [(id F_lFew), seval, cRat, h1]
 repeat refine ob ?_
 refine awX ?_
 (first | (simp only [(id F_lFew), seval, cRat, fewR, h1]; done) | (simp only [(id F_lFew), seval, cRat]; first | (simp [fewR, h1]; done)))
theorem grpOK2_ok {g : GGrp} (h : grpOK2 g) : grpOK g := ⟨fun e he => (h.1 e he).1, h.2.1⟩
end Go.Proofs.YtogeijhepjcbgaaGreatDoor
