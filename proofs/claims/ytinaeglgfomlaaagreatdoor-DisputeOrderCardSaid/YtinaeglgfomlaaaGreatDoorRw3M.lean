/- The reference: CheckEstate; walked by the abstract machine. -/
import Derived.Test.YtinaeglgfomlaaaGreatDoorRw2M
set_option linter.unusedVariables false
set_option linter.unusedSimpArgs false
set_option linter.defProp false
set_option linter.unnecessarySimpa false
section
/- The reference: CheckEstate; walked by the abstract machine. -/
namespace Go.Proofs.YtinaeglgfomlaaaGreatDoor
open Go Go.RowKit
noncomputable def ceAgrs (g : GEst) (i : Nat) : List GAgr → Int
  | [] => 0
  | a :: l => if agS g.claims.length (fun c => mbE c (g.agrs.take i)) a ≠ 0 then agS g.claims.length (fun c => mbE c (g.agrs.take i)) a else ceAgrs g (i + 1) l
noncomputable def ceSpec (e : GEst) : Int := if 24 < e.claims.length ∨ 12 < e.agrs.length then 2 else if qSgn (qOf e.cash) < 0 then 7 else if wcClaims e.claims ≠ 0 then wcClaims e.claims
  else ceAgrs e 0 e.agrs
def estOK2 (e : GEst) : Prop := estOK e ∧ ∀ a ∈ e.agrs, a.length ≤ 1000000000000
end Go.Proofs.YtinaeglgfomlaaaGreatDoor
end
section
/- The reference: claim, leg; walked by the abstract machine. -/
namespace Go.Proofs.YtinaeglgfomlaaaGreatDoor
open Go Go.RowKit
def lgT (l0 : Leg) : List Leg → Nat → Option Nat
  | [], _ => none
  | x :: t, j => if x.1 = l0.1 ∧ x.2 = l0.2 then some j else lgT l0 t (j + 1)
def lgD (l0 : Leg) : List GDebt → Nat → Option (Nat × Nat)
  | [], _ => none
  | d :: ds, i => match lgT l0 d.legs 0 with
    | some j => some (i, j)
    | none => lgD l0 ds (i + 1)
end Go.Proofs.YtinaeglgfomlaaaGreatDoor
end
