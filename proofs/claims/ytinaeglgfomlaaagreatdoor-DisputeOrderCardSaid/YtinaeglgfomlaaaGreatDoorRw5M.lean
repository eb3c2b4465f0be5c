/- The reference: debt; walked by the abstract machine. -/
import Derived.Test.YtinaeglgfomlaaaGreatDoorRw3M
set_option linter.unusedVariables false
set_option linter.unusedSimpArgs false
set_option linter.defProp false
set_option linter.unnecessarySimpa false
/- The reference: debt; walked by the abstract machine. -/
namespace Go.Proofs.YtinaeglgfomlaaaGreatDoor
open Go Go.RowKit
def lgBad (o : Option (Nat × Nat)) (i j : Nat) : Bool := match o with
  | none => false
  | some x => decide (x.1 ≠ i ∨ x.2 ≠ j)
noncomputable def dbL (g : GGrp) (i : Nat) (h0 : Int) : List Leg → Nat → Int
  | [], _ => 0
  | l :: ls, j => if inEsts g.ests l = false then 1 else if lgBad (lgD l g.debts 0) i j = true then 20 else if (claimAt g.ests l).holder ≠ h0 then 19 else dbL g i h0 ls (j + 1)
noncomputable def dbS (g : GGrp) (i : Nat) (d : GDebt) : Int :=
  if 8 < d.legs.length then 2 else if qSgn (qOf d.whole) < 0 then 7 else dbL g i (claimAt g.ests (d.legs.getD 0 (0, 0))).holder d.legs 0
end Go.Proofs.YtinaeglgfomlaaaGreatDoor
