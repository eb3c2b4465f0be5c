/- The arithmetic of both sides as contracts on plain data. -/
import Derived.Test.YtogeijhepjcbgaaGreatDoorFewM
import Derived.Test.YtogeijhepjcbgaaGreatDoorSm2M
import Derived.Test.YtogeijhepjcbgaaGreatDoorPlusM
set_option linter.unusedVariables false
set_option linter.unusedSimpArgs false
set_option linter.defProp false
set_option linter.unnecessarySimpa false
/- The arithmetic of both sides as contracts on plain data. -/
namespace Go.Proofs.YtogeijhepjcbgaaGreatDoor
open Go Go.RowKit
theorem bMinus (p q : Rat) (m n : Nat) (hp : qB m p) (hq : qB n q) (hm : m ≤ 100000000000) (hn : n ≤ 100000000000) : ACall Tryz.prog 72 [.agg (cRat (enc p)), .agg (cRat (enc q))] (.val (.agg (cRat (enc (p - q))))) :=
  acall_flat (fnOK_of Tryz.func72 (by decide) (by kernel_rfl)) [vRat (enc p), vRat (enc q)] (vRat (enc (p - q))) fun w => rMinus_any p q m n w hp hq hm hn
theorem bFix (r : GRat) (h1 : r.num.size ≤ 500000000000) (h2 : r.den.size ≤ 500000000000) : ACall Tryz.prog 70 [.agg (cRat r)] (.val (.agg (cRat (enc (qOf r))))) :=
  acall_flat (fnOK_of Tryz.func70 (by decide) (by kernel_rfl)) [vRat r] (vRat (enc (qOf r))) fun w => rFix_any r w h1 h2
theorem bSignum (r : GRat) : ACall Tryz.prog 71 [.agg (cRat r)] (one (.int .i64 (sgnZ r))) :=
  acall_flat (fnOK_of Tryz.func71 (by decide) (by kernel_rfl)) [vRat r] (.int .i64 (sgnZ r)) fun w => Signum_any r w
theorem sgnZ_sub (p q : Rat) : sgnZ (enc (p - q)) = qCmp p q := by
  have h := sgnZ_enc (p - q)
  rw [h]
  unfold qSgn qCmp
  have h1 : p - q < 0 ↔ p < q := by grind
  have h2 : 0 < p - q ↔ q < p := by grind
  simp only [h1, h2]
def F_rCmp := tf32
set_option maxRecDepth 100000 in
set_option maxHeartbeats 4000000 in
theorem bCompare (r1 r2 : GRat) (m n : Nat) (h1 : sB m r1) (h2 : sB n r2) (hm : m ≤ 100000000000) (hn : n ≤ 100000000000) (hm0 : 0 < m) (hn0 : 0 < n) : ACall Tryz.prog 39 [.agg (cRat r1), .agg (cRat r2)] (one (.int .i64 (qCmp (qOf r1) (qOf r2)))) := by
 refine acall_of Tryz.func39 rfl (by decide) (N := 11) rfl (by simp) (R := [.tmp 4]) rfl fun en k0 => ?_
 repeat' first|apply awS|apply awB
 refine awR [] [none, none, none] ?_
 simp only [(id F_rCmp), (id SS), seval, reduceIte, ne_eq, cRat]
 repeat refine ob ?_
 repeat' first|apply awS|apply awB
 refine awD (sc [1, 5, 2, 6, 8, 10, 13] .nil) [none, none, none, none, none, none, none] ?_
 simp only [(id F_rCmp), (id SS), seval, reduceIte, ne_eq, cRat]
 repeat refine ob ?_
 refine ⟨_, (bFix r1 (by have := h1.1; omega) (by have := h1.2; omega)), rfl, ?_⟩
 try unfold Later
 try simp only [(id F_rCmp), (id SS), seval, reduceIte, ne_eq, cRat]
 repeat refine ob ?_
 refine ⟨_, (bFix r2 (by have := h2.1; omega) (by have := h2.2; omega)), rfl, ?_⟩
 try unfold Later
 try simp only [(id F_rCmp), (id SS), seval, reduceIte, ne_eq, cRat]
 repeat refine ob ?_
 refine ⟨_, (bMinus (qOf r1) (qOf r2) m n (h1.qB hm0) (h2.qB hn0) hm hn), rfl, ?_⟩
 try unfold Later
 try simp only [(id F_rCmp), (id SS), seval, reduceIte, ne_eq, cRat]
 repeat refine ob ?_
 refine ⟨_, (bSignum _), rfl, ?_⟩
 try unfold Later
 try simp only [(id F_rCmp), (id SS), seval, reduceIte, ne_eq, cRat]
 repeat refine ob ?_
 repeat' first|apply awS|apply awB
 refine awp_ret ?_
 (first | (simp only [(id F_rCmp), (id SS), seval, reduceIte, ne_eq, cRat, sgnZ_sub]; done) | (simp only [(id F_rCmp), (id SS), seval, reduceIte, ne_eq, cRat]; first | (simp [sgnZ_sub]; done)))
end Go.Proofs.YtogeijhepjcbgaaGreatDoor
