/- The builder's agreements; walked by the abstract machine. -/
import Derived.Test.YtogeijhepjcbgaaGreatDoorBl1M
import Derived.Test.YtogeijhepjcbgaaGreatDoorAbTM
set_option linter.unusedVariables false
set_option linter.unusedSimpArgs false
set_option linter.defProp false
set_option linter.unnecessarySimpa false
/- The builder's agreements; walked by the abstract machine. -/
namespace Go.Proofs.YtogeijhepjcbgaaGreatDoor
open Go Go.RowKit
structure T3 where
  a : List GPart
  b : List GPart
  c : List GPart
def T3.put (T : T3) (x : Nat) (p : GPart) : T3 := if x = 1 then ⟨T.a ++ [p], T.b, T.c⟩ else if x = 2 then ⟨T.a, T.b ++ [p], T.c⟩ else ⟨T.a, T.b, T.c ++ [p]⟩
theorem aWhole (n : Int) (h0 : -9223372036854775808 ≤ n) (h1 : n ≤ 9223372036854775807) : ACall Tryz.prog 19 [.one (.lit (.int .i64 n))] (.val (.agg (cRat (enc (n : Rat))))) :=
  acall_flat (fnOK_of Tryz.func19 (by decide) (by kernel_rfl)) [.int .i64 n] (vRat (enc (n : Rat))) fun w => Whole_any n w h0 h1
end Go.Proofs.YtogeijhepjcbgaaGreatDoor
