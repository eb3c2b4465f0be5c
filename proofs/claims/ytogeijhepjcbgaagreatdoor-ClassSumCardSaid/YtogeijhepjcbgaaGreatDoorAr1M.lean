/- The arithmetic of both sides as contracts on plain data. -/
import Derived.Test.YtogeijhepjcbgaaGreatDoorFewM
import Derived.Test.YtogeijhepjcbgaaGreatDoorSm2M
import Derived.Test.YtogeijhepjcbgaaGreatDoorPlusM
set_option linter.unusedVariables false
set_option linter.unusedSimpArgs false
set_option linter.defProp false
set_option linter.unnecessarySimpa false
/- The arithmetic of both sides as contracts on plain data. -/
namespace Go.Proofs.YtogeijhepjcbgaaGreatDoor
open Go Go.RowKit
theorem aAdd (r1 r2 : GRat) (m n : Nat) (h1 : sB m r1) (h2 : sB n r2) (hm : m ≤ 100000000000) (hn : n ≤ 100000000000) (hm0 : 0 < m) (hn0 : 0 < n) : ACall Tryz.prog 68 [.agg (cRat r1), .agg (cRat r2)] (.val (.agg (cRat (enc (qOf r1 + qOf r2))))) :=
  acall_flat (fnOK_of Tryz.func68 (by decide) (by kernel_rfl)) [vRat r1, vRat r2] (vRat (enc (qOf r1 + qOf r2))) fun w => qAdd_any r1 r2 m n w h1 h2 hm hn hm0 hn0
theorem bPlus (p q : Rat) (m n : Nat) (hp : qB m p) (hq : qB n q) (hm : m ≤ 100000000000) (hn : n ≤ 100000000000) : ACall Tryz.prog 69 [.agg (cRat (enc p)), .agg (cRat (enc q))] (.val (.agg (cRat (enc (p + q))))) :=
  acall_flat (fnOK_of Tryz.func69 (by decide) (by kernel_rfl)) [vRat (enc p), vRat (enc q)] (vRat (enc (p + q))) fun w => rPlus_any p q m n w hp hq hm hn
theorem bFix (r : GRat) (h1 : r.num.size ≤ 500000000000) (h2 : r.den.size ≤ 500000000000) : ACall Tryz.prog 70 [.agg (cRat r)] (.val (.agg (cRat (enc (qOf r))))) :=
  acall_flat (fnOK_of Tryz.func70 (by decide) (by kernel_rfl)) [vRat r] (vRat (enc (qOf r))) fun w => rFix_any r w h1 h2
def F_rAdd := And.intro tf32 (tf61)
set_option maxRecDepth 100000 in
set_option maxHeartbeats 4000000 in
theorem bAdd (r1 r2 : GRat) (m n : Nat) (h1 : sB m r1) (h2 : sB n r2) (hm : m ≤ 100000000000) (hn : n ≤ 100000000000) (hm0 : 0 < m) (hn0 : 0 < n) : ACall Tryz.prog 38 [.agg (cRat r1), .agg (cRat r2)] (.val (.agg (cRat (enc (qOf r1 + qOf r2))))) := by
 refine acall_of Tryz.func38 rfl (by decide) (N := 10) rfl (by simp) (R := [.cell 4 44]) rfl fun en k0 => ?_
 repeat' first|apply awS|apply awB
 refine awR [] [none, none, none] ?_
 simp only [(id F_rAdd), (id SS), seval, reduceIte, ne_eq, cRat]
 repeat refine ob ?_
 repeat' first|apply awS|apply awB
 refine awD (sc [1, 5, 2, 6, 8, 10] .nil) [none, none, none, none, none, none] ?_
 simp only [(id F_rAdd), (id SS), seval, reduceIte, ne_eq, cRat]
 repeat refine ob ?_
 refine ⟨_, (bFix r1 (by have := h1.1; omega) (by have := h1.2; omega)), rfl, ?_⟩
 try unfold Later
 try simp only [(id F_rAdd), (id SS), seval, reduceIte, ne_eq, cRat]
 repeat refine ob ?_
 refine ⟨_, (bFix r2 (by have := h2.1; omega) (by have := h2.2; omega)), rfl, ?_⟩
 try unfold Later
 try simp only [(id F_rAdd), (id SS), seval, reduceIte, ne_eq, cRat]
 repeat refine ob ?_
 refine ⟨_, (bPlus (qOf r1) (qOf r2) m n (h1.qB hm0) (h2.qB hn0) hm hn), rfl, ?_⟩
 try unfold Later
 try simp only [(id F_rAdd), (id SS), seval, reduceIte, ne_eq, cRat]
 repeat refine ob ?_
 repeat' first|apply awS|apply awB
 refine awp_ret ?_
 (first | (simp only [(id F_rAdd), (id SS), seval, reduceIte, ne_eq, cRat]; done) | (simp only [(id F_rAdd), (id SS), seval, reduceIte, ne_eq, cRat]; first | (simp []; done)))
end Go.Proofs.YtogeijhepjcbgaaGreatDoor
