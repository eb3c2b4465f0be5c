/- The reference: Sign, agreement; walked by the abstract machine. -/
import Derived.Test.YtokmkopihhnggaaGreatDoorGc2M
set_option linter.unusedVariables false
set_option linter.unusedSimpArgs false
namespace Go.Proofs.YtokmkopihhnggaaGreatDoor
open Go Go.RowKit
noncomputable def agT (n : Int) (E : Int → Bool) : List GPart → Int
 | [] => 0
 | p :: l => if p.claim < -1 ∨ n ≤ p.claim then 1 else if p.claim = -1 ∧ p.capped = false then 21 else if p.capped = true ∧ qSgn (qOf p.cap) < 0 then 7
  else if p.claim ≠ -1 ∧ E p.claim = true then 20 else agT n E l
noncomputable def agA (n : Int) (E : Int → Bool) : GAgr → Int
 | [] => 0
 | t :: a => if agT n E t ≠ 0 then agT n E t else agA n E a
noncomputable def agS (n : Int) (E : Int → Bool) (a : GAgr) : Int := if 24 < a.length then 2 else if a.any longT = true then 2 else agA n E a
end Go.Proofs.YtokmkopihhnggaaGreatDoor
