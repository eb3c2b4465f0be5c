/- The builder's agreements; walked by the abstract machine. -/
import Derived.Test.YtokmkopihhnggaaDoorGu4M
import Derived.Test.YtokmkopihhnggaaDoorAbTM
import Derived.Test.YtokmkopihhnggaaDoorFewM
set_option linter.unusedVariables false
set_option linter.unusedSimpArgs false
set_option linter.defProp false
set_option linter.unnecessarySimpa false
/- The builder's agreements; walked by the abstract machine. -/
namespace Go.Proofs.YtokmkopihhnggaaDoor
open Go Go.RowKit
structure T3 where
  a : List GPart
  b : List GPart
  c : List GPart
def T3.put (T : T3) (x : Nat) (p : GPart) : T3 := if x = 1 then ⟨T.a ++ [p], T.b, T.c⟩ else if x = 2 then ⟨T.a, T.b ++ [p], T.c⟩ else ⟨T.a, T.b, T.c ++ [p]⟩
theorem wri (n : Nat) (h : n < 9223372036854775808) : IntKind.i64.wrap (n : Int) = n := wrap_in ((inK_i64 _).2 ⟨by omega, by omega⟩)
end Go.Proofs.YtokmkopihhnggaaDoor
