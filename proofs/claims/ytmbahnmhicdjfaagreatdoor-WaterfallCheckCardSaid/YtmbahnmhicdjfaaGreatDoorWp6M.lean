/- Plain: what is delivered on the claims of an estate. No walk. -/
import Derived.Test.YtmbahnmhicdjfaaGreatDoorWp1M
import Derived.Test.YtmbahnmhicdjfaaGreatDoorOpGM
set_option linter.unusedVariables false
set_option linter.unusedSimpArgs false
set_option linter.defProp false
set_option linter.unnecessarySimpa false
section
/- Plain: what is delivered on the claims of an estate. No walk. -/
namespace Go.Proofs.YtmbahnmhicdjfaaGreatDoor
open Go Go.RowKit
def pDis (ps : List WPool) : Prop := ps.Pairwise fun p q => ∀ i ∈ p.1, i ∉ q.1
theorem pLad_in {cs : List GClaim} {p : WPool} (h : pLad cs p) {n : Nat} (hn : n = cs.length) : ∀ t ∈ p.2, wIn n t := fun t ht x hx => by
  subst hn
  rcases h.rin t ht x hx with h1 | h1
  · exact .inl h1
  exact .inr (h.inn _ h1)
structure eOK (e : GEst) : Prop where
  cl : wEst e.claims
  ag : ∀ a ∈ e.agrs, aOK e.claims.length a
  ds : pDis (wLay e).pools
end Go.Proofs.YtmbahnmhicdjfaaGreatDoor
end
section
/- The builder's helpers: free, taken; walked by the abstract machine. -/
namespace Go.Proofs.YtmbahnmhicdjfaaGreatDoor
open Go Go.RowKit
end Go.Proofs.YtmbahnmhicdjfaaGreatDoor
end
